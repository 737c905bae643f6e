/- Laid. -/
import Derived.Test.YtlllcmahmgdppaaGreatDoorVmThree
import Derived.KernelRfl
import Derived.Test.YtlllcmahmgdppaaGreatDoorProg
import Derived.Test.YtlllcmahmgdppaaGreatDoorXeditD
section
/- Code. -/
set_option maxRecDepth 100000
set_option linter.unusedSimpArgs false
set_option linter.unusedVariables false
namespace Go.Vm
open Go
def c8 : RFn := ⟨(.seq (rf (.o 3 (.box (.t 0)) (.o 4 (.box (.t 1)) (.o 6 (.move (.c (.bool false))) .nil)))) (.seq (rf (.o 8 (.call 39 []) (.o 7 (.m 8) .nil))) (.seq (.seq (rf (.o 9 (.load (some 1) (.t 3)) (.o 10 (.call 12 [(.t 9)]) (.o 11 (.un .not (.t 10)) .nil)))) (.cond (.t 11) (.seq (rf (.o 12 (.m 7) (.o 6 (.m 12) .nil))) .ret) .skip)) (.seq (rt (.o 13 (.m 7) (.op (some 14) (.m 13) 1 (.grd 14 true (.op (some 15) (.load (some 1) (.t 3)) 3 (.op (some 16) (.load (some 17) (.t 4)) 3 (.op (some 17) (.call 40 [(.t 15), (.t 16)]) 15 (.op (some 18) (.load (some 1) (.t 3)) 3 (.op (some 19) (.load (some 17) (.t 4)) 3 (.op (some 20) (.call 42 [(.t 18), (.t 19)]) 127 (.op (some 21) (.bin .eql (.t 17) (.t 20)) 255 .nil))))))) (.op (some 22) (.pick (.t 14) (.t 21) (.c (.bool false))) 511 (.op (some 23) (.m 22) 1023 (.grd 23 true (.op (some 24) (.load (some 1) (.t 3)) 2047 (.op (some 25) (.load (some 17) (.t 4)) 2047 (.op (some 26) (.call 43 [(.t 24), (.t 25)]) 8191 (.op (some 27) (.load (some 1) (.t 3)) 2047 (.op (some 28) (.load (some 17) (.t 4)) 2047 (.op (some 29) (.call 44 [(.t 27), (.t 28)]) 65535 (.op (some 30) (.call 29 [(.t 26), (.t 29)]) 131071 .nil))))))) (.op (some 31) (.pick (.t 23) (.t 30) (.c (.bool false))) 262143 (.op (some 32) (.m 31) 524287 (.grd 32 true (.op (some 33) (.load (some 1) (.t 3)) 1048575 (.op (some 34) (.load (some 17) (.t 4)) 1048575 (.op (some 35) (.call 45 [(.t 33), (.t 34)]) 4194303 (.op (some 36) (.load (some 1) (.t 3)) 1048575 (.op (some 37) (.load (some 17) (.t 4)) 1048575 (.op (some 38) (.call 46 [(.t 36), (.t 37)]) 33554431 (.op (some 39) (.binb .eql (.t 35) (.t 38)) 67108863 .nil))))))) (.op (some 40) (.pick (.t 32) (.t 39) (.c (.bool false))) 134217727 (.op (some 41) (.m 40) 268435455 (.grd 41 true (.op (some 42) (.m 2) 536870911 (.op (some 43) (.call 47 [(.t 42)]) 1073741823 (.op (some 44) (.m 2) 536870911 (.op (some 45) (.call 48 [(.t 44)]) 4294967295 (.op (some 46) (.bin .eql (.t 43) (.t 45)) 8589934591 .nil))))) (.op (some 47) (.pick (.t 41) (.t 46) (.c (.bool false))) 17179869183 (.op (some 6) (.m 47) 34359738367 .nil))))))))))))))) .ret)))), [.tmp 6]⟩
theorem b8 : fnOf Go.Proofs.Tryz.prog (owOf []) 8 = some c8 := by kernel_rfl
def c9 : RFn := ⟨(.seq (rf (.o 2 (.box (.t 0)) (.o 3 (.box (.t 1)) (.o 4 (.move (.c (.bool false))) .nil)))) (.seq (rf (.o 7 (.call 39 []) (.o 5 (.m 7) .nil))) (.seq (.seq (rf (.o 8 (.load (some 1) (.t 2)) (.o 9 (.call 12 [(.t 8)]) (.o 10 (.un .not (.t 9)) .nil)))) (.cond (.t 10) (.seq (rf (.o 11 (.m 5) (.o 4 (.m 11) .nil))) .ret) .skip)) (.seq (rf (.o 12 (.load (some 1) (.t 2)) (.o 13 (.load (some 17) (.t 3)) (.o 14 (.call 40 [(.t 12), (.t 13)]) (.o 6 (.m 14) .nil))))) (.seq (.seq (rf (.o 15 (.load (some 1) (.t 2)) (.o 16 (.call 13 [(.t 15)]) (.o 17 (.un .not (.t 16)) .nil)))) (.cond (.t 17) (.seq (rf (.o 18 (.m 5) (.o 19 (.m 18) (.grd 19 true (.o 20 (.m 6) (.o 21 (.bin .eql (.t 20) (.i 11)) .nil)) (.o 22 (.pick (.t 19) (.t 21) (.c (.bool false))) (.o 23 (.m 22) (.grd 23 true (.o 24 (.load (some 1) (.t 2)) (.o 25 (.load (some 17) (.t 3)) (.o 26 (.call 43 [(.t 24), (.t 25)]) (.o 27 (.len false (.t 26)) (.o 28 (.bin .eql (.t 27) (.i 0)) .nil))))) (.o 29 (.pick (.t 23) (.t 28) (.c (.bool false))) (.o 30 (.m 29) (.grd 30 true (.o 31 (.load (some 1) (.t 2)) (.o 32 (.load (some 17) (.t 3)) (.o 33 (.call 45 [(.t 31), (.t 32)]) (.o 34 (.un .not (.t 33)) .nil)))) (.o 35 (.pick (.t 30) (.t 34) (.c (.bool false))) (.o 4 (.m 35) .nil)))))))))))) .ret) .skip)) (.seq (rf (.o 36 (.m 5) (.o 37 (.m 36) (.grd 37 true (.o 38 (.m 6) (.o 39 (.bin .neq (.t 38) (.i 11)) .nil)) (.o 40 (.pick (.t 37) (.t 39) (.c (.bool false))) (.o 41 (.m 40) (.grd 41 true (.o 42 (.m 6) (.o 43 (.bin .eql (.t 42) (.i 0)) (.o 44 (.load (some 1) (.t 2)) (.o 45 (.load (some 17) (.t 3)) (.o 46 (.call 43 [(.t 44), (.t 45)]) (.o 47 (.len false (.t 46)) (.o 48 (.bin .eql (.t 47) (.i 1)) (.o 49 (.binb .eql (.t 43) (.t 48)) .nil)))))))) (.o 50 (.pick (.t 41) (.t 49) (.c (.bool false))) (.o 51 (.m 50) (.grd 51 true (.o 52 (.m 6) (.o 53 (.bin .eql (.t 52) (.i 0)) (.o 54 (.m 53) (.grd 54 false (.o 55 (.load (some 1) (.t 2)) (.o 56 (.load (some 17) (.t 3)) (.o 57 (.call 45 [(.t 55), (.t 56)]) (.o 58 (.un .not (.t 57)) .nil)))) (.o 59 (.pick (.t 54) (.c (.bool true)) (.t 58)) .nil))))) (.o 60 (.pick (.t 51) (.t 59) (.c (.bool false))) (.o 61 (.m 60) (.grd 61 true (.o 62 (.fieldAddr 0 (.t 3)) (.o 63 (.load none (.t 62)) (.o 64 (.call 47 [(.t 63)]) (.o 65 (.bin .neq (.t 64) (.c (.str ⟨#[]⟩))) (.o 66 (.m 65) (.grd 66 false (.o 67 (.m 6) (.o 68 (.bin .eql (.t 67) (.i 9)) .nil)) (.o 69 (.pick (.t 66) (.c (.bool true)) (.t 68)) .nil))))))) (.o 70 (.pick (.t 61) (.t 69) (.c (.bool false))) (.o 4 (.m 70) .nil))))))))))))))) .ret)))))), [.tmp 4]⟩
theorem b9 : fnOf Go.Proofs.Tryz.prog (owOf []) 9 = some c9 := by kernel_rfl
def c39 : RFn := ⟨(.seq (rf (.o 0 (.move (.c (.bool false))) .nil)) (.seq (rf (.o 4 (.build [(.bool false), (.lit []), (.lit [])] [(0, 1, (.c (.bool true)))]) (.o 5 (.bslice true 3 1 (.agg [(.bool false), (.lit []), (.lit [])]) [(0, (.t 4))]) (.o 6 (.build [(.int .i64 0), (.int .i64 0), (.lit [])] [(2, 1, (.t 5))]) (.o 7 (.bslice true 3 1 (.agg [(.int .i64 0), (.int .i64 0), (.lit [])]) [(0, (.t 6))]) (.o 8 (.build [(.lit [])] [(0, 1, (.t 7))]) (.o 1 (.alloc (.agg [(.lit [])])) (.op none (.store 1 (.t 1) (.t 8)) 0 .nil)))))))) (.seq (rf (.o 9 (.bslice true 1 1 (.int .i64 0) [(0, (.i 0))]) (.o 10 (.build [(.bool false), (.lit []), (.lit [])] [(0, 1, (.c (.bool true))), (2, 1, (.t 9))]) (.o 11 (.bslice true 3 1 (.agg [(.bool false), (.lit []), (.lit [])]) [(0, (.t 10))]) (.o 12 (.build [(.int .i64 0), (.int .i64 0), (.lit [])] [(2, 1, (.t 11))]) (.o 13 (.bslice true 3 1 (.agg [(.int .i64 0), (.int .i64 0), (.lit [])]) [(0, (.t 12))]) (.o 14 (.build [(.lit [])] [(0, 1, (.t 13))]) (.o 2 (.alloc (.agg [(.lit [])])) (.op none (.store 1 (.t 2) (.t 14)) 0 .nil))))))))) (.seq (rf (.o 15 (.build [(.int .i64 0), (.int .i64 0), (.int .i64 0), (.int .i64 0), (.int .i64 0), (.int .i64 0), (.int .i64 0), (.int .i64 0), (.int .i64 0), (.int .i64 0), (.int .i64 0), (.int .i64 0), (.int .i64 0), (.int .i64 0), (.int .i64 0), (.int .i64 0), (.int .i64 0)] [(0, 1, (.i 3))]) (.o 3 (.alloc (.agg [(.int .i64 0), (.int .i64 0), (.int .i64 0), (.int .i64 0), (.int .i64 0), (.int .i64 0), (.int .i64 0), (.int .i64 0), (.int .i64 0), (.int .i64 0), (.int .i64 0), (.int .i64 0), (.int .i64 0), (.int .i64 0), (.int .i64 0), (.int .i64 0), (.int .i64 0)])) (.op none (.store 17 (.t 3) (.t 15)) 0 .nil)))) (.seq (rf (.o 16 (.load (some 1) (.t 1)) (.o 17 (.load (some 17) (.t 3)) (.o 18 (.call 40 [(.t 16), (.t 17)]) (.o 19 (.bin .eql (.t 18) (.i 0)) (.o 20 (.m 19) (.grd 20 true (.o 21 (.load (some 1) (.t 2)) (.o 22 (.load (some 17) (.t 3)) (.o 23 (.call 40 [(.t 21), (.t 22)]) (.o 24 (.bin .eql (.t 23) (.i 5)) .nil)))) (.o 25 (.pick (.t 20) (.t 24) (.c (.bool false))) (.o 26 (.m 25) (.grd 26 true (.o 27 (.call 47 [(.i 3)]) (.o 28 (.bin .eql (.t 27) (.c (.str ⟨#[97, 100, 100, 101, 100, 103, 101]⟩))) .nil)) (.o 29 (.pick (.t 26) (.t 28) (.c (.bool false))) (.o 0 (.m 29) .nil)))))))))))) .ret))))), [.tmp 0]⟩
theorem b39 : fnOf Go.Proofs.Tryz.prog (owOf []) 39 = some c39 := by kernel_rfl
end Go.Vm
end
section
/- Walks. -/
set_option maxRecDepth 100000
set_option linter.unusedSimpArgs false
set_option linter.unusedVariables false
namespace Go.Vm
open Go
set_option maxHeartbeats 4000000
def e0 : Ed := ⟨3, 0, 0, 0, 0, 0, i0⟩
def pAx : List Fn := [⟨0, 0, [⟨true, [], [0]⟩]⟩]
theorem che_aw : cheV pAw e0 = 0 := by decide +kernel
theorem che_ax : cheV pAx e0 = 5 := by decide +kernel
theorem p_awake7 : Pure Go.Proofs.Tryz.prog glD 39 [] (.bool true) := by
  have h1 : Pure Go.Proofs.Tryz.prog glD 40 [pP pAw, pE e0] (.int .i64 0) := by
    have := p_edCheck pAw e0 (by rfl)
    rw [che_aw] at this
    exact this
  have h2 : Pure Go.Proofs.Tryz.prog glD 40 [pP pAx, pE e0] (.int .i64 5) := by
    have := p_edCheck pAx e0 (by rfl)
    rw [che_ax] at this
    exact this
  have h3 := p_edName 3
  refine Pure.fn hmix b39 ?_
  repeat' first | (with_reducible first | refine tr_seq ?_ | refine n_nil ?_ | refine seqQ_normal ?_ | refine seqQ_ret ?_ | refine blkQ_ret ?_ | refine tr_ret ?_) | ((with_reducible refine tr_region_f ?_ ?_); kernel_rfl) | exact ⟨rfl, rfl⟩ | ((with_reducible apply n_and); rfl; rfl; intro h) | ((with_reducible apply n_or); rfl; rfl; intro h) | ((with_reducible apply n_callb (f := 40)); rfl; rfl; (first | exact h1 | exact h2); rfl) | ((with_reducible apply n_call (f := 47)); rfl; rfl; exact h3) | ((with_reducible apply n_val); rfl; rfl) | ((with_reducible apply n_new); rfl; (first | (simp only [hn0, hn1, hn2, hn3, hn4, hn5, List.length_cons, List.length_nil, Nat.reduceAdd, Nat.zero_add]; first | done | rfl) | rfl); rfl) | ((with_reducible apply n_store); rfl; rfl; rfl; rfl; rfl) | ((with_reducible apply n_row); rfl; (first | (simp only [hn0, hn1, hn2, hn3, hn4, hn5, List.length_cons, List.length_nil, Nat.reduceAdd, Nat.zero_add]; first | done | rfl) | rfl); rfl) | ((with_reducible apply fnQ_told_ret); rfl) | ((with_reducible apply fnQ_ret_soft); rfl; rfl)
  refine congrArg PV.bool ?_
  decide +kernel
theorem firstV_in : ∀ l : List (Int × Bool), firstV l = 0 ∨ ∃ q ∈ l, firstV l = q.1
  | [] => .inl rfl
  | (e, b) :: r => by
    rw [firstV]
    split
    · exact .inr ⟨(e, b), List.mem_cons_self, rfl⟩
    · rcases firstV_in r with h | ⟨q, hq, h⟩
      · exact .inl h
      · exact .inr ⟨q, List.mem_cons_of_mem _ hq, h⟩
theorem firstV_lt {l : List (Int × Bool)} {n : Int} (h0 : 0 < n) (h : ∀ q ∈ l, q.1 < n) : firstV l < n := by
  rcases firstV_in l with e | ⟨q, hq, e⟩
  · omega
  · have := h q hq; omega
theorem che_lt {p : List Fn} {e : Ed} (sp : sane p = true) : cheV p e < 11 := by
  unfold cheV
  rw [if_neg (by rw [sp]; simp)]
  split
  · omega
  split
  · exact firstV_lt (by omega) (by simp)
  split
  · omega
  unfold othV insV
  split; · exact firstV_lt (by omega) (by simp)
  split; · exact firstV_lt (by omega) (by simp)
  split; · exact firstV_lt (by omega) (by simp)
  split; · exact firstV_lt (by omega) (by simp)
  split; · exact firstV_lt (by omega) (by simp)
  split; · exact firstV_lt (by omega) (by simp)
  exact firstV_lt (by omega) (by simp)
theorem tou_le (p : List Fn) (e : Ed) : (touV p e).length ≤ 1 := by
  unfold touV
  split
  · exact Nat.zero_le _
  · split <;> exact Nat.le_refl _
theorem l_EditIs (p : List Fn) (e : Ed) (k : Int) : Pure Go.Proofs.Tryz.prog glD 8 [pP p, pE e, .int .i64 k] (.bool true) := by
  have hw := p_Few (gl := glD) p
  cases hf : few p with
  | false =>
    rw [hf] at hw
    refine Pure.fn hmix b8 ?_
    repeat' first | (with_reducible first | refine tr_seq ?_ | refine n_nil ?_ | refine seqQ_normal ?_ | refine seqQ_ret ?_ | refine blkQ_ret ?_ | refine tr_skip ?_ | refine tr_ret ?_ | refine condT_t ?_ | refine condT_f ?_) | ((with_reducible refine tr_region_f ?_ ?_); kernel_rfl) | ((with_reducible refine tr_region_t ?_ ?_ ?_); kernel_rfl; kernel_rfl) | exact ⟨rfl, rfl⟩ | ((with_reducible apply tr_cond_e); rfl) | ((with_reducible refine condT_T ?_ ?_); decide +kernel) | ((with_reducible refine condT_F ?_ ?_); decide +kernel) | ((with_reducible apply n_andF); rfl; rfl; decide +kernel) | ((with_reducible apply n_orT); rfl; rfl; decide +kernel) | ((with_reducible apply n_and); rfl; rfl; intro h) | ((with_reducible apply n_or); rfl; rfl; intro h) | with_reducible refine unrQ_normal ?_ | with_reducible refine unrQ_exit ?_ | with_reducible refine unrQ_ret ?_ | ((with_reducible apply n_call (f := 12)); rfl; rfl; exact hw) | ((with_reducible apply n_val); rfl; rfl) | ((with_reducible apply n_new); rfl; (first | (simp only [hn0, hn1, hn2, hn3, hn4, hn5, List.length_cons, List.length_nil, Nat.reduceAdd, Nat.zero_add]; first | done | rfl) | rfl); rfl) | ((with_reducible apply n_call (f := 39)); rfl; rfl; exact p_awake7) | (with_reducible refine condT_split (fun h => ?_) (fun h => ?_)) | ((with_reducible apply fnQ_told_ret); rfl) | ((with_reducible apply fnQ_ret_soft); rfl; rfl)
    all_goals rfl
  | true =>
    rw [hf] at hw
    have h1 := p_edCheck p e hf
    have h2 := p_r7_Check (gl := glD) p e hf
    have h3 := p_edTou p e hf
    have h4 := p_r7_Tou (gl := glD) p e hf
    have h5 := p_edSame p e hf
    have h6 := p_r7_Same (gl := glD) p e hf
    have h7 := p_edName k
    have h8 := p_r7_Name (gl := glD) k
    have h9 := p_r1_IntsX (gl := glD) (touV p e) (Nat.le_trans (tou_le p e) (by omega))
    generalize cheV p e = c at *
    generalize touV p e = t at *
    generalize samV p e = s at *
    generalize nmO k = m at *
    refine Pure.fn hmix b8 ?_
    repeat' first | (with_reducible first | refine tr_seq ?_ | refine n_nil ?_ | refine seqQ_normal ?_ | refine seqQ_ret ?_ | refine blkQ_ret ?_ | refine tr_skip ?_ | refine tr_ret ?_ | refine condT_t ?_ | refine condT_f ?_) | ((with_reducible refine tr_region_f ?_ ?_); kernel_rfl) | ((with_reducible refine tr_region_t ?_ ?_ ?_); kernel_rfl; kernel_rfl) | exact ⟨rfl, rfl⟩ | ((with_reducible apply tr_cond_e); rfl) | ((with_reducible refine condT_T ?_ ?_); exact rfl) | ((with_reducible refine condT_F ?_ ?_); exact rfl) | ((with_reducible apply n_and); rfl; rfl; intro h) | ((with_reducible apply n_or); rfl; rfl; intro h) | ((with_reducible apply n_call (f := 12)); rfl; rfl; exact hw) | ((with_reducible apply n_call (f := 40)); rfl; rfl; exact h1) | ((with_reducible apply n_call (f := 42)); rfl; rfl; exact h2) | ((with_reducible apply n_call (f := 43)); rfl; rfl; exact h3) | ((with_reducible apply n_call (f := 44)); rfl; rfl; exact h4) | ((with_reducible apply n_call (f := 45)); rfl; rfl; exact h5) | ((with_reducible apply n_call (f := 46)); rfl; rfl; exact h6) | ((with_reducible apply n_call (f := 47)); rfl; rfl; exact h7) | ((with_reducible apply n_call (f := 48)); rfl; rfl; exact h8) | ((with_reducible apply n_call (f := 29)); rfl; rfl; exact h9) | ((with_reducible apply n_val); rfl; rfl) | ((with_reducible apply n_new); rfl; (first | (simp only [hn0, hn1, hn2, hn3, hn4, hn5, List.length_cons, List.length_nil, Nat.reduceAdd, Nat.zero_add]; first | done | rfl) | rfl); rfl) | ((with_reducible apply n_call (f := 39)); rfl; rfl; exact p_awake7) | (with_reducible refine condT_split (fun h => ?_) (fun h => ?_)) | ((with_reducible apply fnQ_told_ret); rfl) | ((with_reducible apply fnQ_ret_soft); rfl; rfl)
    refine congrArg PV.bool ?_
    simp
theorem l_EditBad (p : List Fn) (e : Ed) : Pure Go.Proofs.Tryz.prog glD 9 [pP p, pE e] (.bool true) := by
  have hw := p_Few (gl := glD) p
  cases hf : few p with
  | false =>
    rw [hf] at hw
    refine Pure.fn hmix b9 ?_
    repeat' first | (with_reducible first | refine tr_seq ?_ | refine n_nil ?_ | refine seqQ_normal ?_ | refine seqQ_ret ?_ | refine blkQ_ret ?_ | refine tr_skip ?_ | refine tr_ret ?_ | refine condT_t ?_ | refine condT_f ?_) | ((with_reducible refine tr_region_f ?_ ?_); kernel_rfl) | exact ⟨rfl, rfl⟩ | ((with_reducible apply tr_cond_e); rfl) | ((with_reducible refine condT_T ?_ ?_); decide +kernel) | ((with_reducible refine condT_F ?_ ?_); decide +kernel) | ((with_reducible apply n_andF); rfl; rfl; decide +kernel) | ((with_reducible apply n_orT); rfl; rfl; decide +kernel) | ((with_reducible apply n_and); rfl; rfl; intro h) | ((with_reducible apply n_or); rfl; rfl; intro h) | with_reducible refine unrQ_normal ?_ | with_reducible refine unrQ_exit ?_ | with_reducible refine unrQ_ret ?_ | ((with_reducible apply n_call (f := 12)); rfl; rfl; exact hw) | ((with_reducible apply n_val); rfl; rfl) | ((with_reducible apply n_new); rfl; (first | (simp only [hn0, hn1, hn2, hn3, hn4, hn5, List.length_cons, List.length_nil, Nat.reduceAdd, Nat.zero_add]; first | done | rfl) | rfl); rfl) | ((with_reducible apply n_call (f := 39)); rfl; rfl; exact p_awake7) | (with_reducible refine condT_split (fun h => ?_) (fun h => ?_)) | ((with_reducible apply fnQ_told_ret); rfl) | ((with_reducible apply fnQ_ret_soft); rfl; rfl)
    all_goals rfl
  | true =>
    rw [hf] at hw
    have hs := p_Sane p (few_fit hf)
    have h1 := p_edCheck p e hf
    have h3 := p_edTou p e hf
    have h5 := p_edSame p e hf
    have h7 := p_edName e.op
    have q1 : (ints (touV p e)).length = if cheV p e = 0 then 1 else 0 := by
      rw [ints_length, touV]
      by_cases h : cheV p e = 0
      · rw [if_neg (by simpa using h), if_pos h]; split <;> rfl
      · rw [if_pos h, if_neg h]; rfl
    have q2 : samV p e = true → cheV p e = 0 := fun h => by
      simp only [samV, Bool.and_eq_true, beq_iff_eq] at h
      exact h.2
    have q3 : sane p = false → cheV p e = 11 := fun h => by rw [cheV, if_pos h]
    have q4 : sane p = true → cheV p e < 11 := che_lt
    have q5 : ((nmO e.op).toList == (⟨#[]⟩ : ByteArray).toList) = !decide (0 ≤ e.op ∧ e.op < 8) := nmO_empty e.op
    have q6 : sane p = true → ¬ (0 ≤ e.op ∧ e.op < 8) → cheV p e = 9 := fun h1 h2 => by rw [cheV, if_neg (by rw [h1]; simp), if_pos h2]
    generalize cheV p e = c at *
    generalize touV p e = t at *
    generalize samV p e = s at *
    generalize nmO e.op = m at *
    generalize sane p = S at *
    refine Pure.fn hmix b9 ?_
    repeat' first | (with_reducible first | refine tr_seq ?_ | refine n_nil ?_ | refine seqQ_normal ?_ | refine seqQ_ret ?_ | refine blkQ_ret ?_ | refine tr_skip ?_ | refine tr_ret ?_ | refine condT_t ?_ | refine condT_f ?_) | ((with_reducible refine tr_region_f ?_ ?_); kernel_rfl) | exact ⟨rfl, rfl⟩ | ((with_reducible apply tr_cond_e); rfl) | ((with_reducible refine condT_T ?_ ?_); exact rfl) | ((with_reducible refine condT_F ?_ ?_); exact rfl) | ((with_reducible apply n_and); rfl; rfl; intro h) | ((with_reducible apply n_or); rfl; rfl; intro h) | ((with_reducible apply n_call (f := 12)); rfl; rfl; exact hw) | ((with_reducible apply n_call (f := 13)); rfl; rfl; exact hs) | ((with_reducible apply n_call (f := 40)); rfl; rfl; exact h1) | ((with_reducible apply n_call (f := 43)); rfl; rfl; exact h3) | ((with_reducible apply n_call (f := 45)); rfl; rfl; exact h5) | ((with_reducible apply n_call (f := 47)); rfl; rfl; exact h7) | ((with_reducible apply n_val); rfl; rfl) | ((with_reducible apply n_new); rfl; (first | (simp only [hn0, hn1, hn2, hn3, hn4, hn5, List.length_cons, List.length_nil, Nat.reduceAdd, Nat.zero_add]; first | done | rfl) | rfl); rfl) | ((with_reducible apply n_call (f := 39)); rfl; rfl; exact p_awake7) | (with_reducible refine condT_split (fun h => ?_) (fun h => ?_)) | ((with_reducible apply fnQ_told_ret); rfl) | ((with_reducible apply fnQ_ret_soft); rfl; rfl)
    all_goals (clear hw hs h1 h3 h5 h7; refine congrArg PV.bool ?_)
    · have hS : S = false := by simpa using h
      have h2 := q3 hS
      subst h2
      rw [q1, if_neg (by omega)]
      cases hs : s with
      | false => rfl
      | true => have := q2 hs; omega
    · have hS : S = true := by simpa using h
      have h2 := q4 hS
      have h3 := q6 hS
      rw [q1, q5]
      by_cases hc : c = 0
      · subst hc
        rw [if_pos rfl]
        by_cases ho : 0 ≤ e.op ∧ e.op < 8
        · rw [decide_eq_true ho]; rfl
        · have := h3 ho; omega
      · rw [if_neg hc]
        have e1 : (c == 0) = false := by simpa using hc
        have e2 : (c != 11) = true := by simp; omega
        have e3 : s = false := by
          cases hs : s with
          | false => rfl
          | true => exact absurd (q2 hs) hc
        rw [e1, e2, e3]
        by_cases ho : 0 ≤ e.op ∧ e.op < 8
        · rw [decide_eq_true ho]; rfl
        · rw [h3 ho]; simp
end Go.Vm
end
