/- Laid. -/
import Derived.Test.YtheihgmjjpjlmaaDoorVmThree
import Derived.KernelRfl
import Derived.Test.YtheihgmjjpjlmaaDoorProg
import Derived.Test.YtheihgmjjpjlmaaDoorXbitsC
import Derived.Test.YtheihgmjjpjlmaaDoorLBitsAll
section
/- Code. -/
set_option maxRecDepth 100000
set_option linter.unusedSimpArgs false
set_option linter.unusedVariables false
namespace Go.Vm
open Go
def c5 : RFn := ⟨(.seq (rf (.o 0 (.move (.c (.bool false))) .nil)) (.seq (rf (.o 2 (.bslice false 1 2 (.int .i64 0) [(0, (.i 3)), (1, (.i 65))]) (.o 3 (.call 12 [(.i 70), (.t 2)]) (.o 1 (.alloc (.agg [(.int .i64 0), (.lit [])])) (.op none (.store 2 (.t 1) (.t 3)) 0 .nil))))) (.seq (rf (.o 4 (.fieldAddr 1 (.t 1)) (.o 5 (.load none (.t 4)) (.o 6 (.len false (.t 5)) (.o 7 (.bin .eql (.t 6) (.i 2)) (.o 8 (.m 7) (.grd 8 true (.o 9 (.fieldAddr 1 (.t 1)) (.o 10 (.load none (.t 9)) (.o 11 (.idxAddr 1 (.t 10) (.i 0)) (.o 12 (.load none (.t 11)) (.o 13 (.bin .eql (.t 12) (.c (.int .u64 8))) .nil))))) (.o 14 (.pick (.t 8) (.t 13) (.c (.bool false))) (.o 15 (.m 14) (.grd 15 true (.o 16 (.fieldAddr 1 (.t 1)) (.o 17 (.load none (.t 16)) (.o 18 (.idxAddr 1 (.t 17) (.i 1)) (.o 19 (.load none (.t 18)) (.o 20 (.bin .eql (.t 19) (.c (.int .u64 2))) .nil))))) (.o 21 (.pick (.t 15) (.t 20) (.c (.bool false))) (.o 22 (.m 21) (.grd 22 true (.o 23 (.load (some 2) (.t 1)) (.o 24 (.call 10 [(.t 23), (.i 65)]) .nil)) (.o 25 (.pick (.t 22) (.t 24) (.c (.bool false))) (.o 26 (.m 25) (.grd 26 true (.o 27 (.load (some 2) (.t 1)) (.o 28 (.call 8 [(.t 27)]) .nil)) (.o 29 (.pick (.t 26) (.t 28) (.c (.bool false))) (.o 30 (.m 29) (.grd 30 true (.o 31 (.load (some 2) (.t 1)) (.o 32 (.call 13 [(.t 31)]) (.o 33 (.bin .eql (.t 32) (.i 2)) .nil))) (.o 34 (.pick (.t 30) (.t 33) (.c (.bool false))) (.o 0 (.m 34) .nil))))))))))))))))))))) .ret))), [.tmp 0]⟩
theorem b5 : fnOf Go.Proofs.Tryd.prog (owOf [(1, 0)]) 5 = some c5 := by kernel_rfl
def c6 : RFn := ⟨(.seq (rf (.o 1 (.box (.t 0)) (.o 2 (.alloc (.agg [(.int .i64 0), (.lit [])])) .nil))) (.seq (rf (.o 3 (.fieldAddr 0 (.t 1)) (.o 4 (.load none (.t 3)) (.o 5 (.fieldAddr 1 (.t 1)) (.o 6 (.load none (.t 5)) (.o 7 (.build [(.int .i64 0), (.lit [])] [(0, 1, (.t 4)), (1, 1, (.t 6))]) (.op none (.store 2 (.t 2) (.t 7)) 0 .nil))))))) .ret)), [.cell (some 2) 2]⟩
theorem b6 : fnOf Go.Proofs.Tryd.prog (owOf []) 6 = some c6 := by kernel_rfl
def c7 : RFn := ⟨(.seq (rf (.o 1 (.box (.t 0)) (.o 2 (.move (.c (.bool false))) .nil))) (.seq (rf (.o 3 (.fieldAddr 1 (.t 1)) (.o 4 (.load none (.t 3)) (.o 5 (.len false (.t 4)) (.o 6 (.bin .leq (.t 5) (.i 30)) (.o 2 (.m 6) .nil)))))) .ret)), [.tmp 2]⟩
theorem b7 : fnOf Go.Proofs.Tryd.prog (owOf []) 7 = some c7 := by kernel_rfl
end Go.Vm
end
section
/- Walks. -/
set_option maxRecDepth 100000
set_option linter.unusedSimpArgs false
set_option linter.unusedVariables false
namespace Go.Vm
open Go
section
variable {gl : Nat → Option PV}
set_option maxHeartbeats 4000000
set_option exponentiation.threshold 2000
variable {x y : PV} {M N : Int} {a b : Nat}
theorem r_bits_Same (hx : Rep x M a) (hy : Rep y N b) : Pure Go.Proofs.Tryd.prog gl 11 [x, y] (.bool (M == N && decide (a = b))) := by
  obtain ⟨m, ws, rfl, hw, rfl, rfl⟩ := hx
  obtain ⟨n, us, rfl, hu, rfl, rfl⟩ := hy
  exact p_bits_Same m ws n us hw hu
theorem r_bits_Count (hx : Rep x M a) : Pure Go.Proofs.Tryd.prog gl 13 [x] (.int .i64 (cn a : Nat)) := by
  obtain ⟨m, ws, rfl, hw, rfl, rfl⟩ := hx
  exact p_bits_Count m ws hw
theorem r_bits_With (hx : Rep x M a) (i : Int) : Pure Go.Proofs.Tryd.prog gl 19 [x, .int .i64 i] (mk M (vWith M a i)) := by
  obtain ⟨m, ws, rfl, hw, rfl, rfl⟩ := hx
  exact p_bits_With m ws i hw
theorem r_bits_Without (hx : Rep x M a) (i : Int) : Pure Go.Proofs.Tryd.prog gl 21 [x, .int .i64 i] (mk M (vWout M a i)) := by
  obtain ⟨m, ws, rfl, hw, rfl, rfl⟩ := hx
  exact p_bits_Without m ws i hw
theorem r_bits_Has (hx : Rep x M a) (i : Int) : Pure Go.Proofs.Tryd.prog gl 10 [x, .int .i64 i] (.bool (decide (0 ≤ i ∧ i < M) && a.testBit i.toNat)) := by
  obtain ⟨m, ws, rfl, hw, rfl, rfl⟩ := hx
  have := p_bits_Has (gl := gl) m ws i hw
  have e : (bSane m ws && decide (0 ≤ i) && decide (i < m) && (val ws).testBit i.toNat) = (decide (0 ≤ i ∧ i < nN m ws) && (vN m ws).testBit i.toNat) := by
    cases hb : bSane m ws with
    | true => rw [sane_nN hb, sane_vN hb, Bool.decide_and]; simp
    | false => rw [unsane_nN hb, unsane_vN hb]; simp
  rwa [e] at this
theorem p_law01_few (n : Int) (ws : List Nat) : Pure Go.Proofs.Tryd.prog gl 7 [sv n ws] (.bool (decide ((ws.length : Int) ≤ 30))) := by
  refine Pure.fn hmix b7 ?_
  repeat' first | (with_reducible first | refine tr_seq ?_ | refine n_nil ?_ | refine seqQ_normal ?_ | refine seqQ_ret ?_ | refine blkQ_ret ?_ | refine tr_ret ?_) | ((with_reducible refine tr_region_f ?_ ?_); kernel_rfl) | ((with_reducible apply n_val); rfl; rfl) | ((with_reducible apply n_new); rfl; (first | (simp only [hn0, hn1, hn2, hn3, hn4, hn5, List.length_cons, List.length_nil, Nat.reduceAdd, Nat.zero_add]; first | done | rfl) | rfl); rfl) | ((with_reducible apply fnQ_told_ret); rfl) | ((with_reducible apply fnQ_ret_soft); rfl; rfl)
  rw [u64s_length]
theorem p_law01_ours (n : Int) (ws : List Nat) : Pure Go.Proofs.Tryd.prog gl 6 [sv n ws] (sv n ws) := by
  refine Pure.fn hmix b6 ?_
  repeat' first | (with_reducible first | refine tr_seq ?_ | refine n_nil ?_ | refine seqQ_normal ?_ | refine seqQ_ret ?_ | refine blkQ_ret ?_ | refine tr_ret ?_) | ((with_reducible refine tr_region_f ?_ ?_); kernel_rfl) | ((with_reducible apply n_val); rfl; rfl) | ((with_reducible apply n_new); rfl; (first | (simp only [hn0, hn1, hn2, hn3, hn4, hn5, List.length_cons, List.length_nil, Nat.reduceAdd, Nat.zero_add]; first | done | rfl) | rfl); rfl) | ((with_reducible apply n_store); rfl; rfl; rfl; rfl; rfl) | ((with_reducible apply fnQ_told_ret); rfl) | ((with_reducible apply fnQ_ret_soft); rfl; rfl)
  rfl
theorem p_law01_awake : Pure Go.Proofs.Tryd.prog gl 5 [] (.bool true) := by
  have ho : Pure Go.Proofs.Tryd.prog gl 12 [.int .i64 70, .sl [.int .i64 3, .int .i64 65]] (sv 70 [8, 2]) := by
    have := p_bits_Of (gl := gl) 70 [3, 65] (by decide)
    rw [show clN 70 = 70 from rfl] at this
    have e : words (wN 70) (ofV 70 [3, 65]) = [8, 2] := by decide +kernel
    exact this.as (congrArg (sv 70) e)
  have hw : W64 [8, 2] := by decide +kernel
  refine Pure.fn hmix b5 ?_
  repeat' first | (with_reducible first | refine tr_seq ?_ | refine n_nil ?_ | refine seqQ_normal ?_ | refine seqQ_ret ?_ | refine blkQ_ret ?_ | refine tr_ret ?_) | ((with_reducible refine tr_region_f ?_ ?_); kernel_rfl) | exact ⟨rfl, rfl⟩ | ((with_reducible apply n_and); rfl; rfl; intro h) | ((with_reducible apply n_or); rfl; rfl; intro h) | refine n_call (f := 12) rfl rfl ho ?_ | ((with_reducible apply n_val); rfl; rfl) | ((with_reducible apply n_new); rfl; (first | (simp only [hn0, hn1, hn2, hn3, hn4, hn5, List.length_cons, List.length_nil, Nat.reduceAdd, Nat.zero_add]; first | done | rfl) | rfl); rfl) | ((with_reducible apply n_store); rfl; rfl; rfl; rfl; rfl) | ((with_reducible apply n_call (f := 10)); rfl; rfl; exact p_bits_Has 70 [8, 2] 65 hw) | ((with_reducible apply n_call (f := 8)); rfl; rfl; exact p_bits_Sane 70 [8, 2] hw) | ((with_reducible apply n_call (f := 13)); rfl; rfl; exact p_bits_Count 70 [8, 2] hw) | ((with_reducible apply fnQ_told_ret); rfl) | ((with_reducible apply fnQ_ret_soft); rfl; rfl)
  refine congrArg PV.bool ?_
  decide +kernel
end
end Go.Vm
end
