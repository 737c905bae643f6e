/- Laid. -/
import Derived.Test.YtlcbceneacnaiaaDoorVmThree
import Derived.KernelRfl
import Derived.Test.YtlcbceneacnaiaaDoorProg
import Derived.Test.YtlcbceneacnaiaaDoorXinstrR
section
/- Code. -/
set_option maxRecDepth 100000
set_option linter.unusedSimpArgs false
set_option linter.unusedVariables false
namespace Go.Vm
open Go

/-- bywash/bywashlaw05.InstrIs -/
def c5 : RFn := ⟨(.seq (.region (Nodes.flat none (.op (some 2) (.box (.t 0)) 0
  (.op (some 4) (.move (.c (.bool false))) 0
  .nil))) false)
 (.seq (.region (Nodes.flat none (.op (some 6) (.call 7 []) 0
  (.op (some 5) (.move (.t 6)) 0
  .nil))) false)
 (.seq (.region (Nodes.flat none (.op (some 7) (.move (.t 5)) 0
  (.op (some 8) (.move (.t 7)) 1
  (.grd 8 true
  (.op (some 9) (.load (some 11) (.t 2)) 3
  (.op (some 10) (.call 16 [(.t 9)]) 7
  (.op (some 11) (.load (some 11) (.t 2)) 3
  (.op (some 12) (.call 17 [(.t 11)]) 31
  (.op (some 13) (.binb .eql (.t 10) (.t 12)) 63
  .nil)))))
  (.op (some 14) (.pick (.t 8) (.t 13) (.c (.bool false))) 127
  (.op (some 15) (.move (.t 14)) 255
  (.grd 15 true
  (.op (some 16) (.load (some 11) (.t 2)) 511
  (.op (some 17) (.call 13 [(.t 16)]) 1023
  (.op (some 18) (.load (some 11) (.t 2)) 511
  (.op (some 19) (.call 18 [(.t 18)]) 4095
  (.op (some 20) (.bin .eql (.t 17) (.t 19)) 8191
  .nil)))))
  (.op (some 21) (.pick (.t 15) (.t 20) (.c (.bool false))) 16383
  (.op (some 22) (.move (.t 21)) 32767
  (.grd 22 true
  (.op (some 23) (.load (some 11) (.t 2)) 65535
  (.op (some 24) (.call 11 [(.t 23)]) 131071
  (.op (some 25) (.load (some 11) (.t 2)) 65535
  (.op (some 26) (.call 20 [(.t 25)]) 524287
  (.op (some 27) (.call 19 [(.t 24), (.t 26)]) 1048575
  .nil)))))
  (.op (some 28) (.pick (.t 22) (.t 27) (.c (.bool false))) 2097151
  (.op (some 29) (.move (.t 28)) 4194303
  (.grd 29 true
  (.op (some 30) (.load (some 11) (.t 2)) 8388607
  (.op (some 31) (.call 21 [(.t 30)]) 16777215
  (.op (some 32) (.load (some 11) (.t 2)) 8388607
  (.op (some 33) (.call 22 [(.t 32)]) 67108863
  (.op (some 34) (.call 19 [(.t 31), (.t 33)]) 134217727
  .nil)))))
  (.op (some 35) (.pick (.t 29) (.t 34) (.c (.bool false))) 268435455
  (.op (some 36) (.move (.t 35)) 536870911
  (.grd 36 true
  (.op (some 37) (.move (.t 1)) 1073741823
  (.op (some 38) (.call 23 [(.t 37)]) 2147483647
  (.op (some 39) (.move (.t 1)) 1073741823
  (.op (some 40) (.call 24 [(.t 39)]) 8589934591
  (.op (some 41) (.bin .eql (.t 38) (.t 40)) 17179869183
  .nil)))))
  (.op (some 42) (.pick (.t 36) (.t 41) (.c (.bool false))) 34359738367
  (.op (some 4) (.move (.t 42)) 68719476735
  .nil)))))))))))))))))) true)
 .ret))),
 [.tmp 4]⟩
theorem b5 : fnOf Go.Proofs.Tryd.prog (owOf []) 5 = some c5 := by kernel_rfl

end Go.Vm

end

section
/- Walks. -/
set_option maxRecDepth 100000
set_option linter.unusedSimpArgs false
set_option linter.unusedVariables false
namespace Go.Vm
open Go

set_option maxHeartbeats 4000000
theorem p_r5_Vars {gl : Nat → Option PV} (i : In) : Pure Go.Proofs.Tryd.prog gl 22 [pI i] (.sl (ints (varsI i))) := by
  by_cases hne : usesI i = []
  · by_cases e : defI i = -1
    · exact p_r5_Vars0 i hne e
    · exact p_r5_Vars1 i hne e
  · exact p_r5_Vars3 i hne
theorem uses_le (i : In) : (usesI i).length ≤ 1000000000 := by have := usesI_len i; omega
theorem vars_le (i : In) : (varsI i).length ≤ 1000000000 := by have := usesI_len i; have := vars_len i; omega
theorem l_InstrIs (i : In) (k : Int) : Pure Go.Proofs.Tryd.prog glD 5 [pI i, .int .i64 k] (.bool true) := by
  refine Pure.fn hmix b5 ?_
  repeat' first
    | with_reducible refine tr_seq ?_
    | ((with_reducible refine tr_region_f ?_ ?_); kernel_rfl)
    | ((with_reducible refine tr_region_t ?_ ?_ ?_); kernel_rfl; kernel_rfl)
    | with_reducible refine n_nil ?_
    | exact ⟨rfl, rfl⟩
    | with_reducible refine seqQ_normal ?_
    | with_reducible refine seqQ_ret ?_
    | with_reducible refine blkQ_ret ?_
    | with_reducible refine tr_ret ?_
    | ((with_reducible apply n_and); rfl; rfl; intro h)
    | ((with_reducible apply n_or); rfl; rfl; intro h)
    | ((with_reducible apply n_val); rfl; rfl)
    | ((with_reducible apply n_new); rfl; (first | (simp only [hn0, hn1, hn2, hn3, hn4, hn5, List.length_cons, List.length_nil, Nat.reduceAdd, Nat.zero_add]; done) | (simp only [hn0, hn1, hn2, hn3, hn4, hn5, List.length_cons, List.length_nil, Nat.reduceAdd, Nat.zero_add]; rfl) | rfl); rfl)
    | ((with_reducible apply n_call (f := 7)); rfl; rfl; exact p_law05_awake)
    | ((with_reducible apply n_call (f := 16)); rfl; rfl; exact p_Form ..)
    | ((with_reducible apply n_call (f := 17)); rfl; rfl; exact p_r5_Form ..)
    | ((with_reducible apply n_call (f := 13)); rfl; rfl; exact p_Def ..)
    | ((with_reducible apply n_call (f := 18)); rfl; rfl; exact p_r5_Def ..)
    | ((with_reducible apply n_call (f := 11)); rfl; rfl; exact p_Uses ..)
    | ((with_reducible apply n_call (f := 20)); rfl; rfl; exact p_r5_Uses ..)
    | ((with_reducible apply n_call (f := 21)); rfl; rfl; exact p_Vars ..)
    | ((with_reducible apply n_call (f := 22)); rfl; rfl; exact p_r5_Vars ..)
    | ((with_reducible apply n_call (f := 23)); rfl; rfl; exact p_instr_Name ..)
    | ((with_reducible apply n_call (f := 24)); rfl; rfl; exact p_r5_Name ..)
    | ((with_reducible apply n_call (f := 19)); rfl; rfl; exact p_Ints _ _ (uses_le i))
    | ((with_reducible apply n_call (f := 19)); rfl; rfl; exact p_Ints _ _ (vars_le i))
    | ((with_reducible apply fnQ_told_ret); rfl)
    | ((with_reducible apply fnQ_ret_soft); rfl; rfl)
  simp

end Go.Vm

end
