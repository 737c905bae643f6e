/- Laid. -/
import Derived.Test.YtlcbceneacnaiaaGreatDoorVmThree
import Derived.KernelRfl
import Derived.Test.YtlcbceneacnaiaaGreatDoorProg
import Derived.Test.YtlcbceneacnaiaaGreatDoorXinstrF
import Derived.Test.YtlcbceneacnaiaaGreatDoorLBitsAll
section
/- Code. -/
set_option maxRecDepth 100000
set_option linter.unusedSimpArgs false
set_option linter.unusedVariables false
namespace Go.Vm
open Go
def c18 : RFn := ⟨(.seq (.region (Nodes.flat none (.op (some 2) (.alloc (.agg [(.int .i64 0), (.lit [])])) 0
  .nil)) false)
 (.seq (.region (Nodes.flat none (.op (some 3) (.move (.t 0)) 0
  (.op (some 4) (.mm false (.t 3) [(.c (.int .i64 1024))]) 0
  (.op (some 5) (.mm true (.c (.int .i64 0)) [(.t 4)]) 0
  (.op (some 0) (.move (.t 5)) 0
  .nil))))) false)
 (.seq (.region (Nodes.flat none (.op (some 6) (.move (.t 0)) 0
  (.op (some 7) (.move (.t 0)) 0
  (.op (some 8) (.call 43 [(.t 7)]) 0
  (.op (some 9) (.mkslice 1 (.int .u64 0) (.t 8)) 0
  (.op (some 10) (.build [(.int .i64 0), (.lit [])] [(0, 1, (.t 6)), (1, 1, (.t 9))]) 0
  (.op none (.store 2 (.t 2) (.t 10)) 0
  .nil))))))) false)
 .ret))),
 [.cell (some 2) 2]⟩
theorem b18 : fnOf Go.Proofs.Tryz.prog (owOf []) 18 = some c18 := by kernel_rfl
def c43 : RFn := ⟨(.seq (.region (Nodes.flat none (.op (some 2) (.move (.c (.int .i64 0))) 0
  .nil)) false)
 (.seq (.region (Nodes.flat none (.op (some 3) (.move (.t 0)) 0
  (.op (some 4) (.bin .add (.t 3) (.c (.int .i64 64))) 0
  (.op (some 5) (.bin .sub (.t 4) (.c (.int .i64 1))) 0
  (.op (some 6) (.bin .quo (.t 5) (.c (.int .i64 64))) 0
  (.op (some 2) (.move (.t 6)) 0
  .nil)))))) false)
 .ret)),
 [.tmp 2]⟩
theorem b43 : fnOf Go.Proofs.Tryz.prog (owOf []) 43 = some c43 := by kernel_rfl
def c50 : RFn := ⟨(.seq (.region (Nodes.flat none (.op (some 2) (.box (.t 0)) 0
  (.op (some 4) (.alloc (.agg [(.int .i64 0), (.lit [])])) 0
  .nil))) false)
 (.seq (.region (Nodes.flat none (.op (some 8) (.load (some 2) (.t 2)) 0
  (.op (some 9) (.load (some 2) (.t 2)) 0
  (.op (some 10) (.call 93 [(.t 9)]) 2
  (.op (some 11) (.field 0 none (.t 10)) 6
  (.op (some 12) (.call 94 [(.t 8), (.t 11)]) 15
  (.op (some 5) (.alloc (.agg [(.int .i64 0), (.lit [])])) 0
  (.op none (.store 2 (.t 5) (.t 12)) 63
  .nil)))))))) true)
 (.seq (.seq (.region (Nodes.flat none (.op (some 13) (.load (some 2) (.t 5)) 0
  (.op (some 14) (.move (.t 1)) 0
  (.op (some 15) (.call 104 [(.t 13), (.t 14)]) 0
  .nil)))) false)
 (.cond (.t 15)
 (.seq (.region (Nodes.flat none (.op (some 17) (.move (.t 1)) 0
  (.op (some 18) (.call 105 [(.t 17)]) 0
  (.op (some 16) (.move (.t 18)) 0
  (.op (some 19) (.extract 0 (.t 16)) 0
  (.op (some 20) (.extract 1 (.t 16)) 0
  (.op (some 6) (.move (.t 19)) 0
  (.op (some 7) (.move (.t 20)) 0
  .nil)))))))) false)
 (.region (Nodes.flat none (.op (some 21) (.fieldAddr 1 (.t 5)) 0
  (.op (some 22) (.load none (.t 21)) 0
  (.op (some 23) (.move (.t 6)) 0
  (.op (some 24) (.idxAddr 1 (.t 22) (.t 23)) 0
  (.op (some 25) (.load none (.t 24)) 0
  (.op (some 26) (.move (.t 7)) 0
  (.op (some 27) (.bin .or (.t 25) (.t 26)) 0
  (.op (some 28) (.idxAddr 1 (.t 22) (.t 23)) 0
  (.op none (.store 1 (.t 28) (.t 27)) 0
  .nil)))))))))) false))
 .skip))
 (.seq (.region (Nodes.flat none (.op (some 29) (.load (some 2) (.t 5)) 0
  (.op none (.store 2 (.t 4) (.t 29)) 0
  .nil))) false)
 .ret)))),
 [.cell (some 2) 4]⟩
theorem b50 : fnOf Go.Proofs.Tryz.prog (owOf []) 50 = some c50 := by kernel_rfl
def c52 : RFn := ⟨(.seq (.region (Nodes.flat none (.op (some 2) (.box (.t 0)) 0
  (.op (some 4) (.alloc (.agg [(.int .i64 0), (.lit [])])) 0
  .nil))) false)
 (.seq (.region (Nodes.flat none (.op (some 8) (.load (some 2) (.t 2)) 0
  (.op (some 9) (.load (some 2) (.t 2)) 0
  (.op (some 10) (.call 93 [(.t 9)]) 2
  (.op (some 11) (.field 0 none (.t 10)) 6
  (.op (some 12) (.call 94 [(.t 8), (.t 11)]) 15
  (.op (some 5) (.alloc (.agg [(.int .i64 0), (.lit [])])) 0
  (.op none (.store 2 (.t 5) (.t 12)) 63
  .nil)))))))) true)
 (.seq (.seq (.region (Nodes.flat none (.op (some 13) (.load (some 2) (.t 5)) 0
  (.op (some 14) (.move (.t 1)) 0
  (.op (some 15) (.call 104 [(.t 13), (.t 14)]) 0
  .nil)))) false)
 (.cond (.t 15)
 (.seq (.region (Nodes.flat none (.op (some 17) (.move (.t 1)) 0
  (.op (some 18) (.call 105 [(.t 17)]) 0
  (.op (some 16) (.move (.t 18)) 0
  (.op (some 19) (.extract 0 (.t 16)) 0
  (.op (some 20) (.extract 1 (.t 16)) 0
  (.op (some 6) (.move (.t 19)) 0
  (.op (some 7) (.move (.t 20)) 0
  .nil)))))))) false)
 (.region (Nodes.flat none (.op (some 21) (.fieldAddr 1 (.t 5)) 0
  (.op (some 22) (.load none (.t 21)) 0
  (.op (some 23) (.move (.t 6)) 0
  (.op (some 24) (.idxAddr 1 (.t 22) (.t 23)) 0
  (.op (some 25) (.load none (.t 24)) 0
  (.op (some 26) (.move (.t 7)) 0
  (.op (some 27) (.bin .andNot (.t 25) (.t 26)) 0
  (.op (some 28) (.idxAddr 1 (.t 22) (.t 23)) 0
  (.op none (.store 1 (.t 28) (.t 27)) 0
  .nil)))))))))) false))
 .skip))
 (.seq (.region (Nodes.flat none (.op (some 29) (.load (some 2) (.t 5)) 0
  (.op none (.store 2 (.t 4) (.t 29)) 0
  .nil))) false)
 .ret)))),
 [.cell (some 2) 4]⟩
theorem b52 : fnOf Go.Proofs.Tryz.prog (owOf []) 52 = some c52 := by kernel_rfl
def c93 : RFn := ⟨(.seq (.region (Nodes.flat none (.op (some 1) (.box (.t 0)) 0
  (.op (some 2) (.alloc (.agg [(.int .i64 0), (.lit [])])) 0
  .nil))) false)
 (.seq (.seq (.region (Nodes.flat none (.op (some 3) (.load (some 2) (.t 1)) 0
  (.op (some 4) (.call 133 [(.t 3)]) 0
  (.op (some 5) (.un .not (.t 4)) 0
  .nil)))) false)
 (.cond (.t 5)
 (.seq (.region (Nodes.flat none (.op (some 6) (.call 18 [(.c (.int .i64 0))]) 0
  (.op none (.store 2 (.t 2) (.t 6)) 0
  .nil))) false)
 .ret)
 .skip))
 (.seq (.region (Nodes.flat none (.op (some 7) (.load (some 2) (.t 1)) 0
  (.op none (.store 2 (.t 2) (.t 7)) 0
  .nil))) false)
 .ret))),
 [.cell (some 2) 2]⟩
theorem b93 : fnOf Go.Proofs.Tryz.prog (owOf []) 93 = some c93 := by kernel_rfl
def c94 : RFn := ⟨(.seq (.region (Nodes.flat none (.op (some 2) (.box (.t 0)) 0
  (.op (some 4) (.alloc (.agg [(.int .i64 0), (.lit [])])) 0
  .nil))) false)
 (.seq (.region (Nodes.flat none (.op (some 6) (.move (.t 1)) 0
  (.op (some 7) (.call 18 [(.t 6)]) 0
  (.op (some 5) (.alloc (.agg [(.int .i64 0), (.lit [])])) 0
  (.op none (.store 2 (.t 5) (.t 7)) 0
  .nil))))) false)
 (.seq (.region (Nodes.flat none (.op (some 8) (.fieldAddr 1 (.t 5)) 0
  (.op (some 9) (.load none (.t 8)) 1
  (.op (some 10) (.load (some 2) (.t 2)) 0
  (.op (some 11) (.call 93 [(.t 10)]) 4
  (.op (some 12) (.field 1 none (.t 11)) 12
  (.op (some 13) (.copy 1 (.t 9) (.t 12)) 31
  .nil))))))) true)
 (.seq (.region (Nodes.flat none (.op (some 14) (.load (some 2) (.t 5)) 0
  (.op none (.store 2 (.t 4) (.t 14)) 0
  .nil))) false)
 .ret)))),
 [.cell (some 2) 4]⟩
theorem b94 : fnOf Go.Proofs.Tryz.prog (owOf []) 94 = some c94 := by kernel_rfl
def c103 : RFn := ⟨(.seq (.region (Nodes.flat none (.op (some 2) (.move (.c (.int .i64 0))) 0
  .nil)) false)
 (.seq (.region (Nodes.flat none (.op (some 3) (.move (.t 0)) 0
  (.op (some 4) (.bin .shr (.t 3) (.c (.int .u64 1))) 0
  (.op (some 5) (.bin .and (.t 4) (.c (.int .u64 6148914691236517205))) 0
  (.op (some 6) (.move (.t 0)) 0
  (.op (some 7) (.bin .and (.t 6) (.c (.int .u64 6148914691236517205))) 0
  (.op (some 8) (.bin .add (.t 5) (.t 7)) 0
  (.op (some 0) (.move (.t 8)) 0
  .nil)))))))) false)
 (.seq (.region (Nodes.flat none (.op (some 9) (.move (.t 0)) 0
  (.op (some 10) (.bin .shr (.t 9) (.c (.int .u64 2))) 0
  (.op (some 11) (.bin .and (.t 10) (.c (.int .u64 3689348814741910323))) 0
  (.op (some 12) (.move (.t 0)) 0
  (.op (some 13) (.bin .and (.t 12) (.c (.int .u64 3689348814741910323))) 0
  (.op (some 14) (.bin .add (.t 11) (.t 13)) 0
  (.op (some 0) (.move (.t 14)) 0
  .nil)))))))) false)
 (.seq (.region (Nodes.flat none (.op (some 15) (.move (.t 0)) 0
  (.op (some 16) (.bin .shr (.t 15) (.c (.int .u64 4))) 0
  (.op (some 17) (.move (.t 0)) 0
  (.op (some 18) (.bin .add (.t 16) (.t 17)) 0
  (.op (some 19) (.bin .and (.t 18) (.c (.int .u64 1085102592571150095))) 0
  (.op (some 0) (.move (.t 19)) 0
  .nil))))))) false)
 (.seq (.region (Nodes.flat none (.op (some 20) (.move (.t 0)) 0
  (.op (some 21) (.move (.t 0)) 0
  (.op (some 22) (.bin .shr (.t 21) (.c (.int .u64 8))) 0
  (.op (some 23) (.bin .add (.t 20) (.t 22)) 0
  (.op (some 0) (.move (.t 23)) 0
  .nil)))))) false)
 (.seq (.region (Nodes.flat none (.op (some 24) (.move (.t 0)) 0
  (.op (some 25) (.move (.t 0)) 0
  (.op (some 26) (.bin .shr (.t 25) (.c (.int .u64 16))) 0
  (.op (some 27) (.bin .add (.t 24) (.t 26)) 0
  (.op (some 0) (.move (.t 27)) 0
  .nil)))))) false)
 (.seq (.region (Nodes.flat none (.op (some 28) (.move (.t 0)) 0
  (.op (some 29) (.move (.t 0)) 0
  (.op (some 30) (.bin .shr (.t 29) (.c (.int .u64 32))) 0
  (.op (some 31) (.bin .add (.t 28) (.t 30)) 0
  (.op (some 0) (.move (.t 31)) 0
  .nil)))))) false)
 (.seq (.region (Nodes.flat none (.op (some 32) (.move (.t 0)) 0
  (.op (some 33) (.conv .i64 (.t 32)) 0
  (.op (some 34) (.bin .and (.t 33) (.c (.int .i64 127))) 0
  (.op (some 2) (.move (.t 34)) 0
  .nil))))) false)
 .ret)))))))),
 [.tmp 2]⟩
theorem b103 : fnOf Go.Proofs.Tryz.prog (owOf []) 103 = some c103 := by kernel_rfl
def c104 : RFn := ⟨(.seq (.region (Nodes.flat none (.op (some 2) (.box (.t 0)) 0
  (.op (some 4) (.move (.c (.bool false))) 0
  .nil))) false)
 (.seq (.region (Nodes.flat none (.op (some 5) (.move (.t 1)) 0
  (.op (some 6) (.bin .geq (.t 5) (.c (.int .i64 0))) 0
  (.op (some 7) (.move (.t 6)) 0
  (.grd 7 true
  (.op (some 8) (.move (.t 1)) 0
  (.op (some 9) (.fieldAddr 0 (.t 2)) 0
  (.op (some 10) (.load none (.t 9)) 0
  (.op (some 11) (.bin .lss (.t 8) (.t 10)) 0
  .nil))))
  (.op (some 12) (.pick (.t 7) (.t 11) (.c (.bool false))) 0
  (.op (some 4) (.move (.t 12)) 0
  .nil))))))) false)
 .ret)),
 [.tmp 4]⟩
theorem b104 : fnOf Go.Proofs.Tryz.prog (owOf []) 104 = some c104 := by kernel_rfl
def c105 : RFn := ⟨(.seq (.region (Nodes.flat none (.op (some 2) (.move (.c (.int .i64 0))) 0
  (.op (some 3) (.move (.c (.int .u64 0))) 0
  .nil))) false)
 (.seq (.region (Nodes.flat none (.op (some 4) (.move (.t 0)) 0
  (.op (some 5) (.bin .quo (.t 4) (.c (.int .i64 64))) 0
  (.op (some 6) (.move (.t 0)) 0
  (.op (some 7) (.bin .rem (.t 6) (.c (.int .i64 64))) 0
  (.op (some 8) (.conv .u64 (.t 7)) 0
  (.op (some 9) (.bin .shl (.c (.int .u64 1)) (.t 8)) 0
  (.op (some 2) (.move (.t 5)) 0
  (.op (some 3) (.move (.t 9)) 0
  .nil))))))))) false)
 .ret)),
 [.tmp 2, .tmp 3]⟩
theorem b105 : fnOf Go.Proofs.Tryz.prog (owOf []) 105 = some c105 := by kernel_rfl
def c133 : RFn := ⟨(.seq (.region (Nodes.flat none (.op (some 1) (.box (.t 0)) 0
  (.op (some 2) (.move (.c (.bool false))) 0
  .nil))) false)
 (.seq (.seq (.region (Nodes.flat none (.op (some 4) (.fieldAddr 0 (.t 1)) 0
  (.op (some 5) (.load none (.t 4)) 1
  (.op (some 6) (.bin .lss (.t 5) (.c (.int .i64 0))) 3
  (.op (some 7) (.move (.t 6)) 7
  (.grd 7 false
  (.op (some 8) (.fieldAddr 0 (.t 1)) 15
  (.op (some 9) (.load none (.t 8)) 31
  (.op (some 10) (.bin .gtr (.t 9) (.c (.int .i64 1024))) 63
  .nil)))
  (.op (some 11) (.pick (.t 7) (.c (.bool true)) (.t 10)) 127
  (.op (some 12) (.move (.t 11)) 255
  (.grd 12 false
  (.op (some 13) (.fieldAddr 1 (.t 1)) 511
  (.op (some 14) (.load none (.t 13)) 1023
  (.op (some 15) (.len false (.t 14)) 2047
  (.op (some 16) (.fieldAddr 0 (.t 1)) 511
  (.op (some 17) (.load none (.t 16)) 4607
  (.op (some 18) (.call 43 [(.t 17)]) 12799
  (.op (some 19) (.bin .neq (.t 15) (.t 18)) 32767
  .nil)))))))
  (.op (some 20) (.pick (.t 12) (.c (.bool true)) (.t 19)) 65535
  .nil)))))))))) true)
 (.cond (.t 20)
 (.seq (.region (Nodes.flat none (.op (some 2) (.move (.c (.bool false))) 0
  .nil)) false)
 .ret)
 .skip))
 (.seq (.region (Nodes.flat none (.op (some 21) (.fieldAddr 0 (.t 1)) 0
  (.op (some 22) (.load none (.t 21)) 0
  (.op (some 23) (.bin .rem (.t 22) (.c (.int .i64 64))) 0
  (.op (some 3) (.move (.t 23)) 0
  .nil))))) false)
 (.seq (.region (Nodes.flat none (.op (some 24) (.move (.t 3)) 0
  (.op (some 25) (.bin .eql (.t 24) (.c (.int .i64 0))) 0
  (.op (some 26) (.move (.t 25)) 0
  (.grd 26 false
  (.op (some 27) (.fieldAddr 1 (.t 1)) 0
  (.op (some 28) (.load none (.t 27)) 0
  (.op (some 29) (.fieldAddr 1 (.t 1)) 0
  (.op (some 30) (.load none (.t 29)) 0
  (.op (some 31) (.len false (.t 30)) 0
  (.op (some 32) (.bin .sub (.t 31) (.c (.int .i64 1))) 0
  (.op (some 33) (.idxAddr 1 (.t 28) (.t 32)) 0
  (.op (some 34) (.load none (.t 33)) 0
  (.op (some 35) (.move (.t 3)) 0
  (.op (some 36) (.conv .u64 (.t 35)) 0
  (.op (some 37) (.bin .shr (.t 34) (.t 36)) 0
  (.op (some 38) (.bin .eql (.t 37) (.c (.int .u64 0))) 0
  .nil))))))))))))
  (.op (some 39) (.pick (.t 26) (.c (.bool true)) (.t 38)) 0
  (.op (some 2) (.move (.t 39)) 0
  .nil))))))) false)
 .ret)))),
 [.tmp 2]⟩
theorem b133 : fnOf Go.Proofs.Tryz.prog (owOf []) 133 = some c133 := by kernel_rfl
end Go.Vm
end
section
/- Walks. -/
set_option maxRecDepth 100000
set_option linter.unusedSimpArgs false
set_option linter.unusedVariables false
namespace Go.Vm
open Go
section
variable {gl : Nat → Option PV}
set_option maxHeartbeats 4000000
theorem p_oc64 (x : Nat) (h : x < 2 ^ 64) : Pure Go.Proofs.Tryz.prog gl 103 [.int .u64 (x : Int)] (.int .i64 (pop 64 x : Nat)) := by
  obtain ⟨a, ha⟩ : ∃ a, a = (x / 2 &&& 6148914691236517205) + (x &&& 6148914691236517205) := ⟨_, rfl⟩
  obtain ⟨b, hb⟩ : ∃ b, b = (a / 4 &&& 3689348814741910323) + (a &&& 3689348814741910323) := ⟨_, rfl⟩
  obtain ⟨c, hc⟩ : ∃ c, c = (b / 16 + b) &&& 1085102592571150095 := ⟨_, rfl⟩
  obtain ⟨d, hd⟩ : ∃ d, d = c + c / 256 := ⟨_, rfl⟩
  obtain ⟨e, he⟩ : ∃ e, e = d + d / 65536 := ⟨_, rfl⟩
  obtain ⟨f, hf⟩ : ∃ f, f = e + e / 4294967296 := ⟨_, rfl⟩
  obtain ⟨l1, l2, l3, l4, l5, l6, l7⟩ := pop64 x a b c d e f h ha hb hc hd he hf
  have h1 : binP .shr (.int .u64 (x : Int)) (.int .u64 1) = some (.int .u64 ((x / 2 : Nat) : Int)) := b_shr (by decide)
  have h2 : binP .and (.int .u64 ((x / 2 : Nat) : Int)) (.int .u64 6148914691236517205) = some (.int .u64 ((x / 2 &&& 6148914691236517205 : Nat) : Int)) := b_and64 (b := 6148914691236517205) (by omega) (by omega)
  have h3 : binP .and (.int .u64 (x : Int)) (.int .u64 6148914691236517205) = some (.int .u64 ((x &&& 6148914691236517205 : Nat) : Int)) := b_and64 (b := 6148914691236517205) (by omega) (by omega)
  have h4 : binP .add (.int .u64 ((x / 2 &&& 6148914691236517205 : Nat) : Int)) (.int .u64 ((x &&& 6148914691236517205 : Nat) : Int)) = some (.int .u64 (a : Int)) := by rw [ha]; exact b_add64 (by rw [← ha]; exact l1)
  have h5 : binP .shr (.int .u64 (a : Int)) (.int .u64 2) = some (.int .u64 ((a / 4 : Nat) : Int)) := b_shr (by decide)
  have h6 : binP .and (.int .u64 ((a / 4 : Nat) : Int)) (.int .u64 3689348814741910323) = some (.int .u64 ((a / 4 &&& 3689348814741910323 : Nat) : Int)) := b_and64 (b := 3689348814741910323) (by omega) (by omega)
  have h7 : binP .and (.int .u64 (a : Int)) (.int .u64 3689348814741910323) = some (.int .u64 ((a &&& 3689348814741910323 : Nat) : Int)) := b_and64 (b := 3689348814741910323) (by omega) (by omega)
  have h8 : binP .add (.int .u64 ((a / 4 &&& 3689348814741910323 : Nat) : Int)) (.int .u64 ((a &&& 3689348814741910323 : Nat) : Int)) = some (.int .u64 (b : Int)) := by rw [hb]; exact b_add64 (by rw [← hb]; omega)
  have h9 : binP .shr (.int .u64 (b : Int)) (.int .u64 4) = some (.int .u64 ((b / 16 : Nat) : Int)) := b_shr (by decide)
  have h10 : binP .add (.int .u64 ((b / 16 : Nat) : Int)) (.int .u64 (b : Int)) = some (.int .u64 ((b / 16 + b : Nat) : Int)) := b_add64 (by omega)
  have h11 : binP .and (.int .u64 ((b / 16 + b : Nat) : Int)) (.int .u64 1085102592571150095) = some (.int .u64 (c : Int)) := by rw [hc]; exact b_and64 (b := 1085102592571150095) (by omega) (by omega)
  have h12 : binP .shr (.int .u64 (c : Int)) (.int .u64 8) = some (.int .u64 ((c / 256 : Nat) : Int)) := b_shr (by decide)
  have h13 : binP .add (.int .u64 (c : Int)) (.int .u64 ((c / 256 : Nat) : Int)) = some (.int .u64 (d : Int)) := by rw [hd]; exact b_add64 (by rw [← hd]; omega)
  have h14 : binP .shr (.int .u64 (d : Int)) (.int .u64 16) = some (.int .u64 ((d / 65536 : Nat) : Int)) := b_shr (by decide)
  have h15 : binP .add (.int .u64 (d : Int)) (.int .u64 ((d / 65536 : Nat) : Int)) = some (.int .u64 (e : Int)) := by rw [he]; exact b_add64 (by rw [← he]; omega)
  have h16 : binP .shr (.int .u64 (e : Int)) (.int .u64 32) = some (.int .u64 ((e / 4294967296 : Nat) : Int)) := b_shr (by decide)
  have h17 : binP .add (.int .u64 (e : Int)) (.int .u64 ((e / 4294967296 : Nat) : Int)) = some (.int .u64 (f : Int)) := by rw [hf]; exact b_add64 (by rw [← hf]; omega)
  have h18 : binP .and (.int .i64 (f : Int)) (.int .i64 127) = some (.int .i64 ((f % 128 : Nat) : Int)) := b_and127 l6
  have h19 : IntKind.i64.wrap (f : Int) = f := wrap_i64_of (by omega)
  rw [← l7]
  clear ha hb hc hd he hf l1 l2 l3 l4 l5 l6 l7 h
  refine Pure.fn hmix b103 ?_
  repeat' first
    | with_reducible refine tr_seq ?_
    | ((with_reducible refine tr_region_f ?_ ?_); kernel_rfl)
    | with_reducible refine n_nil ?_
    | with_reducible refine seqQ_normal ?_
    | with_reducible refine seqQ_ret ?_
    | with_reducible refine blkQ_ret ?_
    | with_reducible refine tr_ret ?_
    | ((with_reducible apply n_bin); rfl; rfl; with_reducible (first | exact h1 | exact h2 | exact h3 | exact h4 | exact h5 | exact h6 | exact h7 | exact h8 | exact h9 | exact h10 | exact h11 | exact h12 | exact h13 | exact h14 | exact h15 | exact h16 | exact h17 | exact h18))
    | ((with_reducible apply n_conv); rfl; exact h19)
    | ((with_reducible apply n_val); rfl; rfl)
    | ((with_reducible apply fnQ_told_ret); rfl)
    | ((with_reducible apply fnQ_ret_soft); rfl; rfl)
  rfl
theorem p_bits_words (n : Int) (h : 0 ≤ n ∧ n ≤ 1024) : Pure Go.Proofs.Tryz.prog gl 43 [.int .i64 n] (.int .i64 (wN n : Nat)) := by
  refine Pure.fn hmix b43 ?_
  repeat' first
    | with_reducible refine tr_seq ?_
    | ((with_reducible refine tr_region_f ?_ ?_); kernel_rfl)
    | with_reducible refine n_nil ?_
    | with_reducible refine seqQ_normal ?_
    | with_reducible refine seqQ_ret ?_
    | with_reducible refine blkQ_ret ?_
    | with_reducible refine tr_ret ?_
    | (first | ((with_reducible apply n_bin); rfl; rfl; focus ((with_reducible (first | apply b_add | apply b_sub | apply b_quo64 | apply b_rem64 | apply b_shl1 | apply b_shr | apply b_or64 | apply b_and64 | apply b_andNot64)) <;> first | omega | decide | exact pow_lt64 _ | exact getD_lt (by first | assumption | exact words_lt _ _) _ | (simp only [decide_eq_true_eq, decide_eq_false_iff_not, Bool.or_eq_false_iff, Bool.and_eq_true, Bool.not_eq_true', Bool.not_eq_false', bne_iff_ne, ne_eq, bne_eq_false_iff_eq, beq_iff_eq, beq_eq_false_iff_ne, u64s_length, words_length, List.length_replicate] at *; omega))) | ((with_reducible apply n_min); rfl; rfl) | ((with_reducible apply n_max); rfl; rfl) | ((first | ((with_reducible apply n_conv); rfl; with_reducible apply wrap_u64_of) | ((with_reducible apply n_idx_u64); rfl; rfl) | ((with_reducible apply n_idx_own); rfl; rfl; rfl) | ((with_reducible apply n_load_u64); rfl; rfl) | ((with_reducible apply n_store_u64); rfl; rfl; rfl) | ((with_reducible apply n_mk64); rfl; rfl)); first | omega | decide | exact pow_lt64 _ | exact getD_lt (by first | assumption | exact words_lt _ _) _ | (simp only [decide_eq_true_eq, decide_eq_false_iff_not, Bool.or_eq_false_iff, Bool.and_eq_true, Bool.not_eq_true', Bool.not_eq_false', bne_iff_ne, ne_eq, bne_eq_false_iff_eq, beq_iff_eq, beq_eq_false_iff_ne, u64s_length, words_length, List.length_replicate] at *; omega)) | ((with_reducible apply fnQ_ret_set); rfl; rfl; (first | rfl | exact (by simp only [words_length, List.length_replicate, List.length_set]))))
    | ((with_reducible apply n_val); rfl; rfl)
    | ((with_reducible apply fnQ_told_ret); rfl)
    | ((with_reducible apply fnQ_ret_soft); rfl; rfl)
  exact congrArg (PV.int .i64) (by unfold wN; omega)
def clN (n : Int) : Int := max 0 (min n 1024)
theorem clN_r (n : Int) : 0 ≤ clN n ∧ clN n ≤ 1024 := by unfold clN; omega
theorem wN_rng {n : Int} (h : 0 ≤ n ∧ n ≤ 1024) : (0 : Int) ≤ (wN n : Nat) ∧ ((wN n : Nat) : Int) ≤ 1048576 := by unfold wN; omega
theorem clN_mm (n : Int) : max 0 (min n 1024) = clN n := rfl
theorem f_bits_New (n : Int) : Fresh Go.Proofs.Tryz.prog gl 18 [.int .i64 n] (.agg [.int .i64 (clN n), .ref 1 0 0 (wN (clN n))]) (Hp.ofL [none, some ⟨0, 1, u64s (List.replicate (wN (clN n)) 0)⟩]) := by
  have hr := clN_r n
  have hm := clN_mm n
  have hw := wN_rng hr
  have hp := p_bits_words (gl := gl) (clN n) hr
  refine Fresh.fnL hmix b18 ?_
  repeat' first
    | with_reducible refine tr_seq ?_
    | ((with_reducible refine tr_region_f ?_ ?_); kernel_rfl)
    | with_reducible refine n_nil ?_
    | with_reducible refine seqQ_normal ?_
    | with_reducible refine seqQ_ret ?_
    | with_reducible refine blkQ_ret ?_
    | with_reducible refine tr_ret ?_
    | (first | ((with_reducible apply n_bin); rfl; rfl; focus ((with_reducible (first | apply b_add | apply b_sub | apply b_quo64 | apply b_rem64 | apply b_shl1 | apply b_shr | apply b_or64 | apply b_and64 | apply b_andNot64)) <;> first | omega | decide | exact pow_lt64 _ | exact getD_lt (by first | assumption | exact words_lt _ _) _ | (simp only [decide_eq_true_eq, decide_eq_false_iff_not, Bool.or_eq_false_iff, Bool.and_eq_true, Bool.not_eq_true', Bool.not_eq_false', bne_iff_ne, ne_eq, bne_eq_false_iff_eq, beq_iff_eq, beq_eq_false_iff_ne, u64s_length, words_length, List.length_replicate] at *; omega))) | ((with_reducible apply n_min); rfl; rfl) | ((with_reducible apply n_max); rfl; rfl) | ((first | ((with_reducible apply n_conv); rfl; with_reducible apply wrap_u64_of) | ((with_reducible apply n_idx_u64); rfl; rfl) | ((with_reducible apply n_idx_own); rfl; rfl; rfl) | ((with_reducible apply n_load_u64); rfl; rfl) | ((with_reducible apply n_store_u64); rfl; rfl; rfl) | ((with_reducible apply n_mk64); rfl; rfl)); first | omega | decide | exact pow_lt64 _ | exact getD_lt (by first | assumption | exact words_lt _ _) _ | (simp only [decide_eq_true_eq, decide_eq_false_iff_not, Bool.or_eq_false_iff, Bool.and_eq_true, Bool.not_eq_true', Bool.not_eq_false', bne_iff_ne, ne_eq, bne_eq_false_iff_eq, beq_iff_eq, beq_eq_false_iff_ne, u64s_length, words_length, List.length_replicate] at *; omega)) | ((with_reducible apply fnQ_ret_set); rfl; rfl; (first | rfl | exact (by simp only [words_length, List.length_replicate, List.length_set]))))
    | refine n_call (f := 43) rfl rfl hp ?_
    | ((with_reducible apply n_val); rfl; rfl)
    | ((with_reducible apply n_new); rfl; (first | (simp only [hn0, hn1, hn2, hn3, hn4, hn5, List.length_cons, List.length_nil, Nat.reduceAdd, Nat.zero_add]; done) | (simp only [hn0, hn1, hn2, hn3, hn4, hn5, List.length_cons, List.length_nil, Nat.reduceAdd, Nat.zero_add]; rfl) | rfl); rfl)
    | ((with_reducible apply n_store); rfl; rfl; rfl; rfl; rfl)
    | ((with_reducible apply fnQ_told_ret); rfl)
    | ((with_reducible apply fnQ_ret_soft); rfl; rfl)
  · rfl
  · exact ⟨⟨_, rfl, rfl, rfl, fzP_pure (u64s_pure _)⟩, trivial⟩
theorem mk_zero (n : Int) : sv n (List.replicate (wN n) 0) = mk n 0 := by rw [← words_zero]
theorem p_bits_New (n : Int) : Pure Go.Proofs.Tryz.prog gl 18 [.int .i64 n] (mk (clN n) 0) := by
  refine Fresh.pure (f_bits_New n) ?_
  rw [soft_set (g := 0) (sz := 1) (ws := List.replicate (wN (clN n)) 0) rfl (by simp), mk_zero]
theorem p_bits_Sane (n : Int) (ws : List Nat) (hw : W64 ws) : Pure Go.Proofs.Tryz.prog gl 133 [sv n ws] (.bool (bSane n ws)) := by
  have hk : 0 ≤ n → n % 64 ≠ 0 → 1 ≤ wN n := by unfold wN; omega
  have hk2 : n ≤ 1024 → wN n ≤ 16 := wN_small
  refine Pure.fn hmix b133 ?_
  repeat' first
    | with_reducible refine tr_seq ?_
    | ((with_reducible refine tr_region_f ?_ ?_); kernel_rfl)
    | ((with_reducible refine tr_region_t ?_ ?_ ?_); kernel_rfl; kernel_rfl)
    | with_reducible refine n_nil ?_
    | exact ⟨rfl, rfl⟩
    | with_reducible refine seqQ_normal ?_
    | with_reducible refine seqQ_ret ?_
    | with_reducible refine blkQ_ret ?_
    | with_reducible refine tr_skip ?_
    | with_reducible refine tr_ret ?_
    | ((with_reducible apply tr_cond_e); rfl)
    | with_reducible refine condT_t ?_
    | with_reducible refine condT_f ?_
    | ((with_reducible apply n_and); rfl; rfl; intro h)
    | ((with_reducible apply n_or); rfl; rfl; intro h)
    | (first | ((with_reducible apply n_bin); rfl; rfl; focus ((with_reducible (first | apply b_add | apply b_sub | apply b_quo64 | apply b_rem64 | apply b_shl1 | apply b_shr | apply b_or64 | apply b_and64 | apply b_andNot64)) <;> first | omega | decide | exact pow_lt64 _ | exact getD_lt (by first | assumption | exact words_lt _ _) _ | (simp only [decide_eq_true_eq, decide_eq_false_iff_not, Bool.or_eq_false_iff, Bool.and_eq_true, Bool.not_eq_true', Bool.not_eq_false', bne_iff_ne, ne_eq, bne_eq_false_iff_eq, beq_iff_eq, beq_eq_false_iff_ne, u64s_length, words_length, List.length_replicate] at *; omega))) | ((with_reducible apply n_min); rfl; rfl) | ((with_reducible apply n_max); rfl; rfl) | ((first | ((with_reducible apply n_conv); rfl; with_reducible apply wrap_u64_of) | ((with_reducible apply n_idx_u64); rfl; rfl) | ((with_reducible apply n_idx_own); rfl; rfl; rfl) | ((with_reducible apply n_load_u64); rfl; rfl) | ((with_reducible apply n_store_u64); rfl; rfl; rfl) | ((with_reducible apply n_mk64); rfl; rfl)); first | omega | decide | exact pow_lt64 _ | exact getD_lt (by first | assumption | exact words_lt _ _) _ | (simp only [decide_eq_true_eq, decide_eq_false_iff_not, Bool.or_eq_false_iff, Bool.and_eq_true, Bool.not_eq_true', Bool.not_eq_false', bne_iff_ne, ne_eq, bne_eq_false_iff_eq, beq_iff_eq, beq_eq_false_iff_ne, u64s_length, words_length, List.length_replicate] at *; omega)) | ((with_reducible apply fnQ_ret_set); rfl; rfl; (first | rfl | exact (by simp only [words_length, List.length_replicate, List.length_set]))))
    | ((with_reducible apply n_val); rfl; rfl)
    | ((with_reducible apply n_new); rfl; (first | (simp only [hn0, hn1, hn2, hn3, hn4, hn5, List.length_cons, List.length_nil, Nat.reduceAdd, Nat.zero_add]; done) | (simp only [hn0, hn1, hn2, hn3, hn4, hn5, List.length_cons, List.length_nil, Nat.reduceAdd, Nat.zero_add]; rfl) | rfl); rfl)
    | ((with_reducible apply n_call (f := 43)); rfl; rfl; exact p_bits_words n (by first | omega | decide | exact pow_lt64 _ | exact getD_lt (by first | assumption | exact words_lt _ _) _ | (simp only [decide_eq_true_eq, decide_eq_false_iff_not, Bool.or_eq_false_iff, Bool.and_eq_true, Bool.not_eq_true', Bool.not_eq_false', bne_iff_ne, ne_eq, bne_eq_false_iff_eq, beq_iff_eq, beq_eq_false_iff_ne, u64s_length, words_length, List.length_replicate] at *; omega)))
    | (with_reducible refine condT_split (fun h => ?_) (fun h => ?_))
    | ((with_reducible apply fnQ_told_ret); rfl)
    | ((with_reducible apply fnQ_ret_soft); rfl; rfl)
  all_goals refine congrArg PV.bool ?_
  · symm
    rw [bSane_false_iff]
    simp only [Bool.or_eq_true, decide_eq_true_eq, bne_iff_ne, ne_eq, u64s_length] at h
    omega
  · have h' := ‹_ = false›
    simp only [Bool.or_eq_false_iff, decide_eq_false_iff_not, bne_eq_false_iff_eq, u64s_length] at h'
    simp only [u64s_length]
    exact bSane_code hw (by omega) (by omega) (by omega)
theorem p_bits_sane (n : Int) (ws : List Nat) (hw : W64 ws) : Pure Go.Proofs.Tryz.prog gl 93 [sv n ws] (mk (nN n ws) (vN n ws)) := by
  refine Pure.fn hmix b93 ?_
  repeat' first
    | with_reducible refine tr_seq ?_
    | ((with_reducible refine tr_region_f ?_ ?_); kernel_rfl)
    | with_reducible refine n_nil ?_
    | with_reducible refine seqQ_normal ?_
    | with_reducible refine seqQ_ret ?_
    | with_reducible refine blkQ_ret ?_
    | with_reducible refine tr_skip ?_
    | with_reducible refine tr_ret ?_
    | ((with_reducible apply tr_cond_e); rfl)
    | with_reducible refine condT_t ?_
    | with_reducible refine condT_f ?_
    | (first | ((with_reducible apply n_bin); rfl; rfl; focus ((with_reducible (first | apply b_add | apply b_sub | apply b_quo64 | apply b_rem64 | apply b_shl1 | apply b_shr | apply b_or64 | apply b_and64 | apply b_andNot64)) <;> first | omega | decide | exact pow_lt64 _ | exact getD_lt (by first | assumption | exact words_lt _ _) _ | (simp only [decide_eq_true_eq, decide_eq_false_iff_not, Bool.or_eq_false_iff, Bool.and_eq_true, Bool.not_eq_true', Bool.not_eq_false', bne_iff_ne, ne_eq, bne_eq_false_iff_eq, beq_iff_eq, beq_eq_false_iff_ne, u64s_length, words_length, List.length_replicate] at *; omega))) | ((with_reducible apply n_min); rfl; rfl) | ((with_reducible apply n_max); rfl; rfl) | ((first | ((with_reducible apply n_conv); rfl; with_reducible apply wrap_u64_of) | ((with_reducible apply n_idx_u64); rfl; rfl) | ((with_reducible apply n_idx_own); rfl; rfl; rfl) | ((with_reducible apply n_load_u64); rfl; rfl) | ((with_reducible apply n_store_u64); rfl; rfl; rfl) | ((with_reducible apply n_mk64); rfl; rfl)); first | omega | decide | exact pow_lt64 _ | exact getD_lt (by first | assumption | exact words_lt _ _) _ | (simp only [decide_eq_true_eq, decide_eq_false_iff_not, Bool.or_eq_false_iff, Bool.and_eq_true, Bool.not_eq_true', Bool.not_eq_false', bne_iff_ne, ne_eq, bne_eq_false_iff_eq, beq_iff_eq, beq_eq_false_iff_ne, u64s_length, words_length, List.length_replicate] at *; omega)) | ((with_reducible apply fnQ_ret_set); rfl; rfl; (first | rfl | exact (by simp only [words_length, List.length_replicate, List.length_set]))))
    | ((with_reducible apply n_val); rfl; rfl)
    | ((with_reducible apply n_new); rfl; (first | (simp only [hn0, hn1, hn2, hn3, hn4, hn5, List.length_cons, List.length_nil, Nat.reduceAdd, Nat.zero_add]; done) | (simp only [hn0, hn1, hn2, hn3, hn4, hn5, List.length_cons, List.length_nil, Nat.reduceAdd, Nat.zero_add]; rfl) | rfl); rfl)
    | ((with_reducible apply n_store); rfl; rfl; rfl; rfl; rfl)
    | ((with_reducible apply n_call (f := 133)); rfl; rfl; exact p_bits_Sane n ws hw)
    | ((with_reducible apply n_call (f := 18)); rfl; rfl; exact p_bits_New 0)
    | (with_reducible refine condT_split (fun h => ?_) (fun h => ?_))
    | ((with_reducible apply fnQ_told_ret); rfl)
    | ((with_reducible apply fnQ_ret_soft); rfl; rfl)
  · have h' : bSane n ws = false := by simpa using h
    rw [unsane_nN h', unsane_vN h']
    rfl
  · have h' : bSane n ws = true := by simpa using h
    show sv n ws = sv (nN n ws) _
    rw [sane_words hw h', sane_nN h']
theorem p_bits_is (n i : Int) (x : PV) (hx : pure1 x = true) : Pure Go.Proofs.Tryz.prog gl 104 [.agg [.int .i64 n, x], .int .i64 i] (.bool (decide (0 ≤ i) && decide (i < n))) := by
  refine Pure.fn hmix b104 ?_
  repeat' first
    | with_reducible refine tr_seq ?_
    | ((with_reducible refine tr_region_f ?_ ?_); kernel_rfl)
    | with_reducible refine n_nil ?_
    | exact ⟨rfl, rfl⟩
    | with_reducible refine seqQ_normal ?_
    | with_reducible refine seqQ_ret ?_
    | with_reducible refine blkQ_ret ?_
    | with_reducible refine tr_ret ?_
    | ((with_reducible apply n_and); rfl; rfl; intro h)
    | ((with_reducible apply n_or); rfl; rfl; intro h)
    | ((with_reducible apply n_val); rfl; rfl)
    | ((with_reducible apply n_new); rfl; (first | (simp only [hn0, hn1, hn2, hn3, hn4, hn5, List.length_cons, List.length_nil, Nat.reduceAdd, Nat.zero_add]; done) | (simp only [hn0, hn1, hn2, hn3, hn4, hn5, List.length_cons, List.length_nil, Nat.reduceAdd, Nat.zero_add]; rfl) | rfl); rfl)
    | ((with_reducible apply fnQ_told_ret); rfl)
    | ((with_reducible apply fnQ_ret_soft); rfl; rfl)
  rfl
theorem p_bits_at (i : Int) (h : 0 ≤ i ∧ i < 1024) : Pure Go.Proofs.Tryz.prog gl 105 [.int .i64 i] (.tup [.int .i64 (i / 64), .int .u64 ((2 ^ (i % 64).toNat : Nat) : Int)]) := by
  refine Pure.fn hmix b105 ?_
  repeat' first
    | with_reducible refine tr_seq ?_
    | ((with_reducible refine tr_region_f ?_ ?_); kernel_rfl)
    | with_reducible refine n_nil ?_
    | with_reducible refine seqQ_normal ?_
    | with_reducible refine seqQ_ret ?_
    | with_reducible refine blkQ_ret ?_
    | with_reducible refine tr_ret ?_
    | (first | ((with_reducible apply n_bin); rfl; rfl; focus ((with_reducible (first | apply b_add | apply b_sub | apply b_quo64 | apply b_rem64 | apply b_shl1 | apply b_shr | apply b_or64 | apply b_and64 | apply b_andNot64)) <;> first | omega | decide | exact pow_lt64 _ | exact getD_lt (by first | assumption | exact words_lt _ _) _ | (simp only [decide_eq_true_eq, decide_eq_false_iff_not, Bool.or_eq_false_iff, Bool.and_eq_true, Bool.not_eq_true', Bool.not_eq_false', bne_iff_ne, ne_eq, bne_eq_false_iff_eq, beq_iff_eq, beq_eq_false_iff_ne, u64s_length, words_length, List.length_replicate] at *; omega))) | ((with_reducible apply n_min); rfl; rfl) | ((with_reducible apply n_max); rfl; rfl) | ((first | ((with_reducible apply n_conv); rfl; with_reducible apply wrap_u64_of) | ((with_reducible apply n_idx_u64); rfl; rfl) | ((with_reducible apply n_idx_own); rfl; rfl; rfl) | ((with_reducible apply n_load_u64); rfl; rfl) | ((with_reducible apply n_store_u64); rfl; rfl; rfl) | ((with_reducible apply n_mk64); rfl; rfl)); first | omega | decide | exact pow_lt64 _ | exact getD_lt (by first | assumption | exact words_lt _ _) _ | (simp only [decide_eq_true_eq, decide_eq_false_iff_not, Bool.or_eq_false_iff, Bool.and_eq_true, Bool.not_eq_true', Bool.not_eq_false', bne_iff_ne, ne_eq, bne_eq_false_iff_eq, beq_iff_eq, beq_eq_false_iff_ne, u64s_length, words_length, List.length_replicate] at *; omega)) | ((with_reducible apply fnQ_ret_set); rfl; rfl; (first | rfl | exact (by simp only [words_length, List.length_replicate, List.length_set]))))
    | ((with_reducible apply n_val); rfl; rfl)
    | ((with_reducible apply fnQ_told_ret); rfl)
    | ((with_reducible apply fnQ_ret_soft); rfl; rfl)
  rfl
theorem f_bits_own (m : Int) (ws : List Nat) (n : Int) (hw : W64 ws) (h0 : nN m ws ≤ n) (h1 : n ≤ 1024) : Fresh Go.Proofs.Tryz.prog gl 94 [sv m ws, .int .i64 n] (.agg [.int .i64 n, .ref 3 0 0 (wN n)]) (Hp.ofL [none, none, none, some ⟨0, 1, u64s (words (wN n) (vN m ws))⟩]) := by
  have hr := nN_r m ws
  have hcl : clN n = n := by unfold clN; omega
  have hN := f_bits_New (gl := gl) n
  rw [hcl] at hN
  have hm := wN_mono h0
  refine Fresh.fnL hmix b94 ?_
  repeat' first
    | with_reducible refine tr_seq ?_
    | ((with_reducible refine tr_region_f ?_ ?_); kernel_rfl)
    | ((with_reducible refine tr_region_t ?_ ?_ ?_); kernel_rfl; kernel_rfl)
    | with_reducible refine n_nil ?_
    | with_reducible refine seqQ_normal ?_
    | with_reducible refine seqQ_ret ?_
    | with_reducible refine blkQ_ret ?_
    | with_reducible refine tr_ret ?_
    | ((with_reducible apply n_copy64); rfl; rfl; rfl; (simp only [List.length_replicate]); (simp only [words_length, List.length_replicate]; exact hm))
    | ((with_reducible apply n_val); rfl; rfl)
    | ((with_reducible apply n_new); rfl; (first | (simp only [hn0, hn1, hn2, hn3, hn4, hn5, List.length_cons, List.length_nil, Nat.reduceAdd, Nat.zero_add]; done) | (simp only [hn0, hn1, hn2, hn3, hn4, hn5, List.length_cons, List.length_nil, Nat.reduceAdd, Nat.zero_add]; rfl) | rfl); rfl)
    | ((with_reducible apply n_store); rfl; rfl; rfl; rfl; rfl)
    | ((with_reducible apply n_freshL ); (first | (simp only [hn0, hn1, hn2, hn3, hn4, hn5, List.length_cons, List.length_nil, Nat.reduceAdd, Nat.zero_add]; done) | (simp only [hn0, hn1, hn2, hn3, hn4, hn5, List.length_cons, List.length_nil, Nat.reduceAdd, Nat.zero_add]; rfl) | rfl); rfl; rfl; exact hN; rfl; (repeat (first | exact ShL.nil | apply ShL.none | (apply ShL.some; (first | rfl | exact shiftPs_pure (u64s_pure _) | exact shiftPs_pure (ints_pure _) | exact shiftPs_pure (vals_pure (fun _ => rfl) _))))))
    | ((with_reducible apply n_call (f := 93)); rfl; rfl; exact p_bits_sane m ws hw)
    | ((with_reducible apply fnQ_told_ret); rfl)
    | ((with_reducible apply fnQ_ret_soft); rfl; rfl)
  · rfl
  · refine ⟨⟨_, rfl, rfl, rfl, ?_⟩, trivial⟩
    rw [words_length, List.drop_replicate, words_more (lt_words hr.1 (vN_lt m ws)) hm]
    exact fzP_pure (u64s_pure _)
theorem p_bits_With (n : Int) (ws : List Nat) (i : Int) (hw : W64 ws) : Pure Go.Proofs.Tryz.prog gl 50 [sv n ws, .int .i64 i] (mk (nN n ws) (if 0 ≤ i ∧ i < nN n ws then withB (vN n ws) i.toNat else vN n ws)) := by
  have hr := nN_r n ws
  have g4 := wN_le hr.1
  have ho := f_bits_own (gl := gl) n ws (nN n ws) hw (by omega) (by omega)
  refine Pure.fn hmix b50 ?_
  repeat' first
    | with_reducible refine tr_seq ?_
    | ((with_reducible refine tr_region_f ?_ ?_); kernel_rfl)
    | ((with_reducible refine tr_region_t ?_ ?_ ?_); kernel_rfl; kernel_rfl)
    | with_reducible refine n_nil ?_
    | with_reducible refine seqQ_normal ?_
    | with_reducible refine seqQ_ret ?_
    | with_reducible refine blkQ_ret ?_
    | with_reducible refine tr_skip ?_
    | with_reducible refine tr_ret ?_
    | ((with_reducible apply tr_cond_e); rfl)
    | with_reducible refine condT_t ?_
    | with_reducible refine condT_f ?_
    | (first | ((with_reducible apply n_bin); rfl; rfl; focus ((with_reducible (first | apply b_add | apply b_sub | apply b_quo64 | apply b_rem64 | apply b_shl1 | apply b_shr | apply b_or64 | apply b_and64 | apply b_andNot64)) <;> first | omega | decide | exact pow_lt64 _ | exact getD_lt (by first | assumption | exact words_lt _ _) _ | (simp only [decide_eq_true_eq, decide_eq_false_iff_not, Bool.or_eq_false_iff, Bool.and_eq_true, Bool.not_eq_true', Bool.not_eq_false', bne_iff_ne, ne_eq, bne_eq_false_iff_eq, beq_iff_eq, beq_eq_false_iff_ne, u64s_length, words_length, List.length_replicate] at *; omega))) | ((with_reducible apply n_min); rfl; rfl) | ((with_reducible apply n_max); rfl; rfl) | ((first | ((with_reducible apply n_conv); rfl; with_reducible apply wrap_u64_of) | ((with_reducible apply n_idx_u64); rfl; rfl) | ((with_reducible apply n_idx_own); rfl; rfl; rfl) | ((with_reducible apply n_load_u64); rfl; rfl) | ((with_reducible apply n_store_u64); rfl; rfl; rfl) | ((with_reducible apply n_mk64); rfl; rfl)); first | omega | decide | exact pow_lt64 _ | exact getD_lt (by first | assumption | exact words_lt _ _) _ | (simp only [decide_eq_true_eq, decide_eq_false_iff_not, Bool.or_eq_false_iff, Bool.and_eq_true, Bool.not_eq_true', Bool.not_eq_false', bne_iff_ne, ne_eq, bne_eq_false_iff_eq, beq_iff_eq, beq_eq_false_iff_ne, u64s_length, words_length, List.length_replicate] at *; omega)) | ((with_reducible apply fnQ_ret_set); rfl; rfl; (first | rfl | exact (by simp only [words_length, List.length_replicate, List.length_set]))))
    | ((with_reducible apply n_val); rfl; rfl)
    | ((with_reducible apply n_new); rfl; (first | (simp only [hn0, hn1, hn2, hn3, hn4, hn5, List.length_cons, List.length_nil, Nat.reduceAdd, Nat.zero_add]; done) | (simp only [hn0, hn1, hn2, hn3, hn4, hn5, List.length_cons, List.length_nil, Nat.reduceAdd, Nat.zero_add]; rfl) | rfl); rfl)
    | ((with_reducible apply n_store); rfl; rfl; rfl; rfl; rfl)
    | ((with_reducible apply n_call (f := 93)); rfl; rfl; exact p_bits_sane n ws hw)
    | ((with_reducible apply n_freshL ); (first | (simp only [hn0, hn1, hn2, hn3, hn4, hn5, List.length_cons, List.length_nil, Nat.reduceAdd, Nat.zero_add]; done) | (simp only [hn0, hn1, hn2, hn3, hn4, hn5, List.length_cons, List.length_nil, Nat.reduceAdd, Nat.zero_add]; rfl) | rfl); rfl; rfl; exact ho; rfl; (repeat (first | exact ShL.nil | apply ShL.none | (apply ShL.some; (first | rfl | exact shiftPs_pure (u64s_pure _) | exact shiftPs_pure (ints_pure _) | exact shiftPs_pure (vals_pure (fun _ => rfl) _))))))
    | ((with_reducible apply n_callb (f := 104)); rfl; exact softs_set rfl (by first | rfl | simp only [words_length, List.length_replicate] ) rfl; exact p_bits_is (nN n ws) i _ rfl; rfl)
    | ((with_reducible apply n_call (f := 105)); rfl; rfl; exact p_bits_at i (by first | omega | decide | exact pow_lt64 _ | exact getD_lt (by first | assumption | exact words_lt _ _) _ | (simp only [decide_eq_true_eq, decide_eq_false_iff_not, Bool.or_eq_false_iff, Bool.and_eq_true, Bool.not_eq_true', Bool.not_eq_false', bne_iff_ne, ne_eq, bne_eq_false_iff_eq, beq_iff_eq, beq_eq_false_iff_ne, u64s_length, words_length, List.length_replicate] at *; omega)))
    | (with_reducible refine condT_split (fun h => ?_) (fun h => ?_))
    | ((with_reducible apply fnQ_told_ret); rfl)
    | ((with_reducible apply fnQ_ret_soft); rfl; rfl)
  · simp only [Bool.and_eq_true, decide_eq_true_eq] at h
    rw [if_pos h]
    exact congrArg (sv _) (set_with h.1 (by omega))
  · simp only [Bool.and_eq_false_iff, decide_eq_false_iff_not] at h
    rw [if_neg (by omega)]
theorem p_bits_Without (n : Int) (ws : List Nat) (i : Int) (hw : W64 ws) : Pure Go.Proofs.Tryz.prog gl 52 [sv n ws, .int .i64 i] (mk (nN n ws) (if 0 ≤ i ∧ i < nN n ws then minus (vN n ws) (2 ^ i.toNat) else vN n ws)) := by
  have hr := nN_r n ws
  have g4 := wN_le hr.1
  have ho := f_bits_own (gl := gl) n ws (nN n ws) hw (by omega) (by omega)
  refine Pure.fn hmix b52 ?_
  repeat' first
    | with_reducible refine tr_seq ?_
    | ((with_reducible refine tr_region_f ?_ ?_); kernel_rfl)
    | ((with_reducible refine tr_region_t ?_ ?_ ?_); kernel_rfl; kernel_rfl)
    | with_reducible refine n_nil ?_
    | with_reducible refine seqQ_normal ?_
    | with_reducible refine seqQ_ret ?_
    | with_reducible refine blkQ_ret ?_
    | with_reducible refine tr_skip ?_
    | with_reducible refine tr_ret ?_
    | ((with_reducible apply tr_cond_e); rfl)
    | with_reducible refine condT_t ?_
    | with_reducible refine condT_f ?_
    | (first | ((with_reducible apply n_bin); rfl; rfl; focus ((with_reducible (first | apply b_add | apply b_sub | apply b_quo64 | apply b_rem64 | apply b_shl1 | apply b_shr | apply b_or64 | apply b_and64 | apply b_andNot64)) <;> first | omega | decide | exact pow_lt64 _ | exact getD_lt (by first | assumption | exact words_lt _ _) _ | (simp only [decide_eq_true_eq, decide_eq_false_iff_not, Bool.or_eq_false_iff, Bool.and_eq_true, Bool.not_eq_true', Bool.not_eq_false', bne_iff_ne, ne_eq, bne_eq_false_iff_eq, beq_iff_eq, beq_eq_false_iff_ne, u64s_length, words_length, List.length_replicate] at *; omega))) | ((with_reducible apply n_min); rfl; rfl) | ((with_reducible apply n_max); rfl; rfl) | ((first | ((with_reducible apply n_conv); rfl; with_reducible apply wrap_u64_of) | ((with_reducible apply n_idx_u64); rfl; rfl) | ((with_reducible apply n_idx_own); rfl; rfl; rfl) | ((with_reducible apply n_load_u64); rfl; rfl) | ((with_reducible apply n_store_u64); rfl; rfl; rfl) | ((with_reducible apply n_mk64); rfl; rfl)); first | omega | decide | exact pow_lt64 _ | exact getD_lt (by first | assumption | exact words_lt _ _) _ | (simp only [decide_eq_true_eq, decide_eq_false_iff_not, Bool.or_eq_false_iff, Bool.and_eq_true, Bool.not_eq_true', Bool.not_eq_false', bne_iff_ne, ne_eq, bne_eq_false_iff_eq, beq_iff_eq, beq_eq_false_iff_ne, u64s_length, words_length, List.length_replicate] at *; omega)) | ((with_reducible apply fnQ_ret_set); rfl; rfl; (first | rfl | exact (by simp only [words_length, List.length_replicate, List.length_set]))))
    | ((with_reducible apply n_val); rfl; rfl)
    | ((with_reducible apply n_new); rfl; (first | (simp only [hn0, hn1, hn2, hn3, hn4, hn5, List.length_cons, List.length_nil, Nat.reduceAdd, Nat.zero_add]; done) | (simp only [hn0, hn1, hn2, hn3, hn4, hn5, List.length_cons, List.length_nil, Nat.reduceAdd, Nat.zero_add]; rfl) | rfl); rfl)
    | ((with_reducible apply n_store); rfl; rfl; rfl; rfl; rfl)
    | ((with_reducible apply n_call (f := 93)); rfl; rfl; exact p_bits_sane n ws hw)
    | ((with_reducible apply n_freshL ); (first | (simp only [hn0, hn1, hn2, hn3, hn4, hn5, List.length_cons, List.length_nil, Nat.reduceAdd, Nat.zero_add]; done) | (simp only [hn0, hn1, hn2, hn3, hn4, hn5, List.length_cons, List.length_nil, Nat.reduceAdd, Nat.zero_add]; rfl) | rfl); rfl; rfl; exact ho; rfl; (repeat (first | exact ShL.nil | apply ShL.none | (apply ShL.some; (first | rfl | exact shiftPs_pure (u64s_pure _) | exact shiftPs_pure (ints_pure _) | exact shiftPs_pure (vals_pure (fun _ => rfl) _))))))
    | ((with_reducible apply n_callb (f := 104)); rfl; exact softs_set rfl (by first | rfl | simp only [words_length, List.length_replicate] ) rfl; exact p_bits_is (nN n ws) i _ rfl; rfl)
    | ((with_reducible apply n_call (f := 105)); rfl; rfl; exact p_bits_at i (by first | omega | decide | exact pow_lt64 _ | exact getD_lt (by first | assumption | exact words_lt _ _) _ | (simp only [decide_eq_true_eq, decide_eq_false_iff_not, Bool.or_eq_false_iff, Bool.and_eq_true, Bool.not_eq_true', Bool.not_eq_false', bne_iff_ne, ne_eq, bne_eq_false_iff_eq, beq_iff_eq, beq_eq_false_iff_ne, u64s_length, words_length, List.length_replicate] at *; omega)))
    | (with_reducible refine condT_split (fun h => ?_) (fun h => ?_))
    | ((with_reducible apply fnQ_told_ret); rfl)
    | ((with_reducible apply fnQ_ret_soft); rfl; rfl)
  · simp only [Bool.and_eq_true, decide_eq_true_eq] at h
    rw [if_pos h]
    exact congrArg (sv _) (set_without h.1 (by omega))
  · simp only [Bool.and_eq_false_iff, decide_eq_false_iff_not] at h
    rw [if_neg (by omega)]
end
end Go.Vm
end
