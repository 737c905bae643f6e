/- Laid. -/
import Derived.Test.YtheihgmjjpjlmaaDoorVmThree
import Derived.KernelRfl
import Derived.Test.YtheihgmjjpjlmaaDoorProg
import Derived.Test.YtheihgmjjpjlmaaDoorXbitsH
section
/- Code. -/
set_option maxRecDepth 100000
set_option linter.unusedSimpArgs false
set_option linter.unusedVariables false
namespace Go.Vm
open Go
def c18 : RFn := ⟨(.seq (rf (.o 1 (.box (.t 0)) (.o 2 (.alloc (.agg [(.int .i64 0), (.lit [])])) .nil))) (.seq (rf (.o 3 (.fieldAddr 0 (.t 1)) (.o 4 (.load none (.t 3)) (.o 5 (.fieldAddr 1 (.t 1)) (.o 6 (.load none (.t 5)) (.o 7 (.build [(.int .i64 0), (.lit [])] [(0, 1, (.t 4)), (1, 1, (.t 6))]) (.op none (.store 2 (.t 2) (.t 7)) 0 .nil))))))) .ret)), [.cell (some 2) 2]⟩
theorem b18 : fnOf Go.Proofs.Tryd.prog (owOf []) 18 = some c18 := by kernel_rfl
end Go.Vm
end
section
/- Walks. -/
set_option maxRecDepth 100000
set_option linter.unusedSimpArgs false
set_option linter.unusedVariables false
namespace Go.Vm
open Go
section
variable {gl : Nat → Option PV}
set_option maxHeartbeats 4000000
set_option exponentiation.threshold 2000
theorem p_law01_theirs (n : Int) (ws : List Nat) : Pure Go.Proofs.Tryd.prog gl 18 [sv n ws] (sv n ws) := by
  refine Pure.fn hmix b18 ?_
  repeat' first | (with_reducible first | refine tr_seq ?_ | refine n_nil ?_ | refine seqQ_normal ?_ | refine seqQ_ret ?_ | refine blkQ_ret ?_ | refine tr_ret ?_) | ((with_reducible refine tr_region_f ?_ ?_); kernel_rfl) | ((with_reducible apply n_val); rfl; rfl) | ((with_reducible apply n_new); rfl; (first | (simp only [hn0, hn1, hn2, hn3, hn4, hn5, List.length_cons, List.length_nil, Nat.reduceAdd, Nat.zero_add]; first | done | rfl) | rfl); rfl) | ((with_reducible apply n_store); rfl; rfl; rfl; rfl; rfl) | ((with_reducible apply fnQ_told_ret); rfl) | ((with_reducible apply fnQ_ret_soft); rfl; rfl)
  rfl
end
end Go.Vm
end
