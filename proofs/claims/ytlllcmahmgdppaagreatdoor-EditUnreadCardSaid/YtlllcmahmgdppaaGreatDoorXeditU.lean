/- Laid. -/
import Derived.Test.YtlllcmahmgdppaaGreatDoorVmThree
import Derived.KernelRfl
import Derived.Test.YtlllcmahmgdppaaGreatDoorProg
import Derived.Test.YtlllcmahmgdppaaGreatDoorXeditE
section
/- Code. -/
set_option maxRecDepth 100000
set_option linter.unusedSimpArgs false
set_option linter.unusedVariables false
namespace Go.Vm
open Go
def c6 : RFn := ⟨(.seq (rf (.o 3 (.box (.t 0)) (.o 4 (.box (.t 1)) (.o 5 (.box (.t 2)) (.o 6 (.move (.c (.bool false))) .nil))))) (.seq (rf (.o 9 (.call 39 []) (.o 7 (.m 9) .nil))) (.seq (.seq (rf (.o 10 (.load (some 1) (.t 3)) (.o 11 (.call 12 [(.t 10)]) (.o 12 (.un .not (.t 11)) .nil)))) (.cond (.t 12) (.seq (rf (.o 13 (.m 7) (.o 6 (.m 13) .nil))) .ret) .skip)) (.seq (rf (.o 14 (.load (some 17) (.t 5)) (.o 8 (.alloc (.agg [(.int .i64 0), (.int .i64 0), (.int .i64 0), (.int .i64 0), (.int .i64 0), (.int .i64 0), (.int .i64 0), (.int .i64 0), (.int .i64 0), (.int .i64 0), (.int .i64 0), (.int .i64 0), (.int .i64 0), (.int .i64 0), (.int .i64 0), (.int .i64 0), (.int .i64 0)])) (.op none (.store 17 (.t 8) (.t 14)) 0 .nil)))) (.seq (rf (.o 15 (.fieldAddr 0 (.t 4)) (.o 16 (.load none (.t 15)) (.o 17 (.fieldAddr 0 (.t 8)) (.op none (.store 1 (.t 17) (.t 16)) 0 .nil))))) (.seq (.seq (rf (.o 18 (.fieldAddr 0 (.t 4)) (.o 19 (.load none (.t 18)) (.o 20 (.bin .neq (.t 19) (.i 0)) .nil)))) (.cond (.t 20) (rf (.o 21 (.fieldAddr 1 (.t 4)) (.o 22 (.load none (.t 21)) (.o 23 (.fieldAddr 1 (.t 8)) (.op none (.store 1 (.t 23) (.t 22)) 0 .nil))))) .skip)) (.seq (.seq (rf (.o 24 (.fieldAddr 0 (.t 4)) (.o 25 (.load none (.t 24)) (.o 26 (.bin .neq (.t 25) (.i 1)) .nil)))) (.cond (.t 26) (rf (.o 27 (.fieldAddr 2 (.t 4)) (.o 28 (.load none (.t 27)) (.o 29 (.fieldAddr 2 (.t 8)) (.op none (.store 1 (.t 29) (.t 28)) 0 .nil))))) .skip)) (.seq (.seq (rf (.o 30 (.fieldAddr 0 (.t 4)) (.o 31 (.load none (.t 30)) (.o 32 (.bin .eql (.t 31) (.i 0)) (.o 33 (.m 32) (.grd 33 false (.o 34 (.fieldAddr 0 (.t 4)) (.o 35 (.load none (.t 34)) (.o 36 (.bin .eql (.t 35) (.i 3)) .nil))) (.o 37 (.pick (.t 33) (.c (.bool true)) (.t 36)) (.o 38 (.m 37) (.grd 38 false (.o 39 (.fieldAddr 0 (.t 4)) (.o 40 (.load none (.t 39)) (.o 41 (.bin .eql (.t 40) (.i 4)) .nil))) (.o 42 (.pick (.t 38) (.c (.bool true)) (.t 41)) (.o 43 (.m 42) (.grd 43 false (.o 44 (.fieldAddr 0 (.t 4)) (.o 45 (.load none (.t 44)) (.o 46 (.bin .eql (.t 45) (.i 5)) .nil))) (.o 47 (.pick (.t 43) (.c (.bool true)) (.t 46)) .nil))))))))))))) (.cond (.t 47) (rf (.o 48 (.fieldAddr 3 (.t 4)) (.o 49 (.load none (.t 48)) (.o 50 (.fieldAddr 3 (.t 8)) (.op none (.store 1 (.t 50) (.t 49)) 0 .nil))))) .skip)) (.seq (.seq (rf (.o 51 (.fieldAddr 0 (.t 4)) (.o 52 (.load none (.t 51)) (.o 53 (.bin .eql (.t 52) (.i 5)) .nil)))) (.cond (.t 53) (rf (.o 54 (.fieldAddr 4 (.t 4)) (.o 55 (.load none (.t 54)) (.o 56 (.fieldAddr 4 (.t 8)) (.op none (.store 1 (.t 56) (.t 55)) 0 .nil))))) .skip)) (.seq (.seq (rf (.o 57 (.fieldAddr 0 (.t 4)) (.o 58 (.load none (.t 57)) (.o 59 (.bin .eql (.t 58) (.i 6)) (.o 60 (.m 59) (.grd 60 false (.o 61 (.fieldAddr 0 (.t 4)) (.o 62 (.load none (.t 61)) (.o 63 (.bin .eql (.t 62) (.i 7)) .nil))) (.o 64 (.pick (.t 60) (.c (.bool true)) (.t 63)) .nil))))))) (.cond (.t 64) (rf (.o 65 (.fieldAddr 5 (.t 4)) (.o 66 (.load none (.t 65)) (.o 67 (.fieldAddr 5 (.t 8)) (.op none (.store 1 (.t 67) (.t 66)) 0 .nil))))) .skip)) (.seq (.seq (rf (.o 68 (.fieldAddr 0 (.t 4)) (.o 69 (.load none (.t 68)) (.o 70 (.bin .eql (.t 69) (.i 6)) .nil)))) (.cond (.t 70) (rf (.o 71 (.fieldAddr 6 (.t 4)) (.o 72 (.load (some 11) (.t 71)) (.o 73 (.fieldAddr 6 (.t 8)) (.op none (.store 11 (.t 73) (.t 72)) 0 .nil))))) .skip)) (.seq (rt (.o 74 (.m 7) (.op (some 75) (.m 74) 1 (.grd 75 true (.op (some 76) (.load (some 1) (.t 3)) 3 (.op (some 77) (.load (some 17) (.t 8)) 3 (.op (some 78) (.call 40 [(.t 76), (.t 77)]) 15 (.op (some 79) (.load (some 1) (.t 3)) 3 (.op (some 80) (.load (some 17) (.t 4)) 3 (.op (some 81) (.call 40 [(.t 79), (.t 80)]) 127 (.op (some 82) (.bin .eql (.t 78) (.t 81)) 255 .nil))))))) (.op (some 83) (.pick (.t 75) (.t 82) (.c (.bool false))) 511 (.op (some 6) (.m 83) 1023 .nil)))))) .ret)))))))))))), [.tmp 6]⟩
theorem b6 : fnOf Go.Proofs.Tryz.prog (owOf []) 6 = some c6 := by kernel_rfl
end Go.Vm
end
section
/- Walks. -/
set_option maxRecDepth 100000
set_option linter.unusedSimpArgs false
set_option linter.unusedVariables false
namespace Go.Vm
open Go
set_option maxHeartbeats 4000000
theorem unr_0 (p : List Fn) (f b to ot pos : Int) (i : In) (o : Ed) (hf : few p = true) : Pure Go.Proofs.Tryz.prog glD 6 [pP p, pE ⟨0, f, b, to, ot, pos, i⟩, pE o] (.bool true) := by
  have hw := p_Few (gl := glD) p
  rw [hf] at hw
  have h1 := p_edCheck p ⟨0, o.f, b, to, o.ot, o.pos, o.i⟩ hf
  have h2 := p_edCheck p ⟨0, f, b, to, ot, pos, i⟩ hf
  have e : cheV p ⟨0, o.f, b, to, o.ot, o.pos, o.i⟩ = cheV p ⟨0, f, b, to, ot, pos, i⟩ := by
    simp only [cheV, othV, addV, insV]
    simp
  rw [e] at h1
  generalize cheV p ⟨0, f, b, to, ot, pos, i⟩ = c at *
  refine Pure.fn hmix b6 ?_
  repeat' first | (with_reducible first | refine tr_seq ?_ | refine n_nil ?_ | refine seqQ_normal ?_ | refine seqQ_ret ?_ | refine blkQ_ret ?_ | refine tr_skip ?_ | refine tr_ret ?_ | refine condT_t ?_ | refine condT_f ?_) | ((with_reducible refine tr_region_f ?_ ?_); kernel_rfl) | ((with_reducible refine tr_region_t ?_ ?_ ?_); kernel_rfl; kernel_rfl) | exact ⟨rfl, rfl⟩ | ((with_reducible apply tr_cond_e); rfl) | ((with_reducible refine condT_T ?_ ?_); exact rfl) | ((with_reducible refine condT_F ?_ ?_); exact rfl) | ((with_reducible apply n_and); rfl; rfl; intro h) | ((with_reducible apply n_or); rfl; rfl; intro h) | ((with_reducible apply n_call (f := 12)); rfl; rfl; exact hw) | ((with_reducible apply n_call (f := 40)); rfl; rfl; (first | exact h2 | exact h1)) | ((with_reducible apply n_val); rfl; rfl) | ((with_reducible apply n_new); rfl; (first | (simp only [hn0, hn1, hn2, hn3, hn4, hn5, List.length_cons, List.length_nil, Nat.reduceAdd, Nat.zero_add]; first | done | rfl) | rfl); rfl) | ((with_reducible apply n_store); rfl; rfl; rfl; rfl; rfl) | ((with_reducible apply n_call (f := 39)); rfl; rfl; exact p_awake7) | ((with_reducible apply fnQ_told_ret); rfl) | ((with_reducible apply fnQ_ret_soft); rfl; rfl)
  refine congrArg PV.bool ?_
  simp
theorem unr_1 (p : List Fn) (f b to ot pos : Int) (i : In) (o : Ed) (hf : few p = true) : Pure Go.Proofs.Tryz.prog glD 6 [pP p, pE ⟨1, f, b, to, ot, pos, i⟩, pE o] (.bool true) := by
  have hw := p_Few (gl := glD) p
  rw [hf] at hw
  have h1 := p_edCheck p ⟨1, f, o.b, o.to, o.ot, o.pos, o.i⟩ hf
  have h2 := p_edCheck p ⟨1, f, b, to, ot, pos, i⟩ hf
  have e : cheV p ⟨1, f, o.b, o.to, o.ot, o.pos, o.i⟩ = cheV p ⟨1, f, b, to, ot, pos, i⟩ := by
    simp only [cheV, othV, addV, insV]
    simp
  rw [e] at h1
  generalize cheV p ⟨1, f, b, to, ot, pos, i⟩ = c at *
  refine Pure.fn hmix b6 ?_
  repeat' first | (with_reducible first | refine tr_seq ?_ | refine n_nil ?_ | refine seqQ_normal ?_ | refine seqQ_ret ?_ | refine blkQ_ret ?_ | refine tr_skip ?_ | refine tr_ret ?_ | refine condT_t ?_ | refine condT_f ?_) | ((with_reducible refine tr_region_f ?_ ?_); kernel_rfl) | ((with_reducible refine tr_region_t ?_ ?_ ?_); kernel_rfl; kernel_rfl) | exact ⟨rfl, rfl⟩ | ((with_reducible apply tr_cond_e); rfl) | ((with_reducible refine condT_T ?_ ?_); exact rfl) | ((with_reducible refine condT_F ?_ ?_); exact rfl) | ((with_reducible apply n_and); rfl; rfl; intro h) | ((with_reducible apply n_or); rfl; rfl; intro h) | ((with_reducible apply n_call (f := 12)); rfl; rfl; exact hw) | ((with_reducible apply n_call (f := 40)); rfl; rfl; (first | exact h2 | exact h1)) | ((with_reducible apply n_val); rfl; rfl) | ((with_reducible apply n_new); rfl; (first | (simp only [hn0, hn1, hn2, hn3, hn4, hn5, List.length_cons, List.length_nil, Nat.reduceAdd, Nat.zero_add]; first | done | rfl) | rfl); rfl) | ((with_reducible apply n_store); rfl; rfl; rfl; rfl; rfl) | ((with_reducible apply n_call (f := 39)); rfl; rfl; exact p_awake7) | ((with_reducible apply fnQ_told_ret); rfl) | ((with_reducible apply fnQ_ret_soft); rfl; rfl)
  refine congrArg PV.bool ?_
  simp
theorem unr_2 (p : List Fn) (f b to ot pos : Int) (i : In) (o : Ed) (hf : few p = true) : Pure Go.Proofs.Tryz.prog glD 6 [pP p, pE ⟨2, f, b, to, ot, pos, i⟩, pE o] (.bool true) := by
  have hw := p_Few (gl := glD) p
  rw [hf] at hw
  have h1 := p_edCheck p ⟨2, f, b, o.to, o.ot, o.pos, o.i⟩ hf
  have h2 := p_edCheck p ⟨2, f, b, to, ot, pos, i⟩ hf
  have e : cheV p ⟨2, f, b, o.to, o.ot, o.pos, o.i⟩ = cheV p ⟨2, f, b, to, ot, pos, i⟩ := by
    simp only [cheV, othV, addV, insV]
    simp
  rw [e] at h1
  generalize cheV p ⟨2, f, b, to, ot, pos, i⟩ = c at *
  refine Pure.fn hmix b6 ?_
  repeat' first | (with_reducible first | refine tr_seq ?_ | refine n_nil ?_ | refine seqQ_normal ?_ | refine seqQ_ret ?_ | refine blkQ_ret ?_ | refine tr_skip ?_ | refine tr_ret ?_ | refine condT_t ?_ | refine condT_f ?_) | ((with_reducible refine tr_region_f ?_ ?_); kernel_rfl) | ((with_reducible refine tr_region_t ?_ ?_ ?_); kernel_rfl; kernel_rfl) | exact ⟨rfl, rfl⟩ | ((with_reducible apply tr_cond_e); rfl) | ((with_reducible refine condT_T ?_ ?_); exact rfl) | ((with_reducible refine condT_F ?_ ?_); exact rfl) | ((with_reducible apply n_and); rfl; rfl; intro h) | ((with_reducible apply n_or); rfl; rfl; intro h) | ((with_reducible apply n_call (f := 12)); rfl; rfl; exact hw) | ((with_reducible apply n_call (f := 40)); rfl; rfl; (first | exact h2 | exact h1)) | ((with_reducible apply n_val); rfl; rfl) | ((with_reducible apply n_new); rfl; (first | (simp only [hn0, hn1, hn2, hn3, hn4, hn5, List.length_cons, List.length_nil, Nat.reduceAdd, Nat.zero_add]; first | done | rfl) | rfl); rfl) | ((with_reducible apply n_store); rfl; rfl; rfl; rfl; rfl) | ((with_reducible apply n_call (f := 39)); rfl; rfl; exact p_awake7) | ((with_reducible apply fnQ_told_ret); rfl) | ((with_reducible apply fnQ_ret_soft); rfl; rfl)
  refine congrArg PV.bool ?_
  simp
theorem unr_3 (p : List Fn) (f b to ot pos : Int) (i : In) (o : Ed) (hf : few p = true) : Pure Go.Proofs.Tryz.prog glD 6 [pP p, pE ⟨3, f, b, to, ot, pos, i⟩, pE o] (.bool true) := by
  have hw := p_Few (gl := glD) p
  rw [hf] at hw
  have h1 := p_edCheck p ⟨3, f, b, to, o.ot, o.pos, o.i⟩ hf
  have h2 := p_edCheck p ⟨3, f, b, to, ot, pos, i⟩ hf
  have e : cheV p ⟨3, f, b, to, o.ot, o.pos, o.i⟩ = cheV p ⟨3, f, b, to, ot, pos, i⟩ := by
    simp only [cheV, othV, addV, insV]
    simp
  rw [e] at h1
  generalize cheV p ⟨3, f, b, to, ot, pos, i⟩ = c at *
  refine Pure.fn hmix b6 ?_
  repeat' first | (with_reducible first | refine tr_seq ?_ | refine n_nil ?_ | refine seqQ_normal ?_ | refine seqQ_ret ?_ | refine blkQ_ret ?_ | refine tr_skip ?_ | refine tr_ret ?_ | refine condT_t ?_ | refine condT_f ?_) | ((with_reducible refine tr_region_f ?_ ?_); kernel_rfl) | ((with_reducible refine tr_region_t ?_ ?_ ?_); kernel_rfl; kernel_rfl) | exact ⟨rfl, rfl⟩ | ((with_reducible apply tr_cond_e); rfl) | ((with_reducible refine condT_T ?_ ?_); exact rfl) | ((with_reducible refine condT_F ?_ ?_); exact rfl) | ((with_reducible apply n_and); rfl; rfl; intro h) | ((with_reducible apply n_or); rfl; rfl; intro h) | ((with_reducible apply n_call (f := 12)); rfl; rfl; exact hw) | ((with_reducible apply n_call (f := 40)); rfl; rfl; (first | exact h2 | exact h1)) | ((with_reducible apply n_val); rfl; rfl) | ((with_reducible apply n_new); rfl; (first | (simp only [hn0, hn1, hn2, hn3, hn4, hn5, List.length_cons, List.length_nil, Nat.reduceAdd, Nat.zero_add]; first | done | rfl) | rfl); rfl) | ((with_reducible apply n_store); rfl; rfl; rfl; rfl; rfl) | ((with_reducible apply n_call (f := 39)); rfl; rfl; exact p_awake7) | ((with_reducible apply fnQ_told_ret); rfl) | ((with_reducible apply fnQ_ret_soft); rfl; rfl)
  refine congrArg PV.bool ?_
  simp
theorem unr_4 (p : List Fn) (f b to ot pos : Int) (i : In) (o : Ed) (hf : few p = true) : Pure Go.Proofs.Tryz.prog glD 6 [pP p, pE ⟨4, f, b, to, ot, pos, i⟩, pE o] (.bool true) := by
  have hw := p_Few (gl := glD) p
  rw [hf] at hw
  have h1 := p_edCheck p ⟨4, f, b, to, o.ot, o.pos, o.i⟩ hf
  have h2 := p_edCheck p ⟨4, f, b, to, ot, pos, i⟩ hf
  have e : cheV p ⟨4, f, b, to, o.ot, o.pos, o.i⟩ = cheV p ⟨4, f, b, to, ot, pos, i⟩ := by
    simp only [cheV, othV, addV, insV]
    simp
  rw [e] at h1
  generalize cheV p ⟨4, f, b, to, ot, pos, i⟩ = c at *
  refine Pure.fn hmix b6 ?_
  repeat' first | (with_reducible first | refine tr_seq ?_ | refine n_nil ?_ | refine seqQ_normal ?_ | refine seqQ_ret ?_ | refine blkQ_ret ?_ | refine tr_skip ?_ | refine tr_ret ?_ | refine condT_t ?_ | refine condT_f ?_) | ((with_reducible refine tr_region_f ?_ ?_); kernel_rfl) | ((with_reducible refine tr_region_t ?_ ?_ ?_); kernel_rfl; kernel_rfl) | exact ⟨rfl, rfl⟩ | ((with_reducible apply tr_cond_e); rfl) | ((with_reducible refine condT_T ?_ ?_); exact rfl) | ((with_reducible refine condT_F ?_ ?_); exact rfl) | ((with_reducible apply n_and); rfl; rfl; intro h) | ((with_reducible apply n_or); rfl; rfl; intro h) | ((with_reducible apply n_call (f := 12)); rfl; rfl; exact hw) | ((with_reducible apply n_call (f := 40)); rfl; rfl; (first | exact h2 | exact h1)) | ((with_reducible apply n_val); rfl; rfl) | ((with_reducible apply n_new); rfl; (first | (simp only [hn0, hn1, hn2, hn3, hn4, hn5, List.length_cons, List.length_nil, Nat.reduceAdd, Nat.zero_add]; first | done | rfl) | rfl); rfl) | ((with_reducible apply n_store); rfl; rfl; rfl; rfl; rfl) | ((with_reducible apply n_call (f := 39)); rfl; rfl; exact p_awake7) | ((with_reducible apply fnQ_told_ret); rfl) | ((with_reducible apply fnQ_ret_soft); rfl; rfl)
  refine congrArg PV.bool ?_
  simp
theorem unr_5 (p : List Fn) (f b to ot pos : Int) (i : In) (o : Ed) (hf : few p = true) : Pure Go.Proofs.Tryz.prog glD 6 [pP p, pE ⟨5, f, b, to, ot, pos, i⟩, pE o] (.bool true) := by
  have hw := p_Few (gl := glD) p
  rw [hf] at hw
  have h1 := p_edCheck p ⟨5, f, b, to, ot, o.pos, o.i⟩ hf
  have h2 := p_edCheck p ⟨5, f, b, to, ot, pos, i⟩ hf
  have e : cheV p ⟨5, f, b, to, ot, o.pos, o.i⟩ = cheV p ⟨5, f, b, to, ot, pos, i⟩ := by
    simp only [cheV, othV, addV, insV]
    simp
  rw [e] at h1
  generalize cheV p ⟨5, f, b, to, ot, pos, i⟩ = c at *
  refine Pure.fn hmix b6 ?_
  repeat' first | (with_reducible first | refine tr_seq ?_ | refine n_nil ?_ | refine seqQ_normal ?_ | refine seqQ_ret ?_ | refine blkQ_ret ?_ | refine tr_skip ?_ | refine tr_ret ?_ | refine condT_t ?_ | refine condT_f ?_) | ((with_reducible refine tr_region_f ?_ ?_); kernel_rfl) | ((with_reducible refine tr_region_t ?_ ?_ ?_); kernel_rfl; kernel_rfl) | exact ⟨rfl, rfl⟩ | ((with_reducible apply tr_cond_e); rfl) | ((with_reducible refine condT_T ?_ ?_); exact rfl) | ((with_reducible refine condT_F ?_ ?_); exact rfl) | ((with_reducible apply n_and); rfl; rfl; intro h) | ((with_reducible apply n_or); rfl; rfl; intro h) | ((with_reducible apply n_call (f := 12)); rfl; rfl; exact hw) | ((with_reducible apply n_call (f := 40)); rfl; rfl; (first | exact h2 | exact h1)) | ((with_reducible apply n_val); rfl; rfl) | ((with_reducible apply n_new); rfl; (first | (simp only [hn0, hn1, hn2, hn3, hn4, hn5, List.length_cons, List.length_nil, Nat.reduceAdd, Nat.zero_add]; first | done | rfl) | rfl); rfl) | ((with_reducible apply n_store); rfl; rfl; rfl; rfl; rfl) | ((with_reducible apply n_call (f := 39)); rfl; rfl; exact p_awake7) | ((with_reducible apply fnQ_told_ret); rfl) | ((with_reducible apply fnQ_ret_soft); rfl; rfl)
  refine congrArg PV.bool ?_
  simp
theorem unr_6 (p : List Fn) (f b to ot pos : Int) (i : In) (o : Ed) (hf : few p = true) : Pure Go.Proofs.Tryz.prog glD 6 [pP p, pE ⟨6, f, b, to, ot, pos, i⟩, pE o] (.bool true) := by
  have hw := p_Few (gl := glD) p
  rw [hf] at hw
  have h1 := p_edCheck p ⟨6, f, b, o.to, o.ot, pos, i⟩ hf
  have h2 := p_edCheck p ⟨6, f, b, to, ot, pos, i⟩ hf
  have e : cheV p ⟨6, f, b, o.to, o.ot, pos, i⟩ = cheV p ⟨6, f, b, to, ot, pos, i⟩ := by
    simp only [cheV, othV, addV, insV]
    simp
  rw [e] at h1
  generalize cheV p ⟨6, f, b, to, ot, pos, i⟩ = c at *
  refine Pure.fn hmix b6 ?_
  repeat' first | (with_reducible first | refine tr_seq ?_ | refine n_nil ?_ | refine seqQ_normal ?_ | refine seqQ_ret ?_ | refine blkQ_ret ?_ | refine tr_skip ?_ | refine tr_ret ?_ | refine condT_t ?_ | refine condT_f ?_) | ((with_reducible refine tr_region_f ?_ ?_); kernel_rfl) | ((with_reducible refine tr_region_t ?_ ?_ ?_); kernel_rfl; kernel_rfl) | exact ⟨rfl, rfl⟩ | ((with_reducible apply tr_cond_e); rfl) | ((with_reducible refine condT_T ?_ ?_); exact rfl) | ((with_reducible refine condT_F ?_ ?_); exact rfl) | ((with_reducible apply n_and); rfl; rfl; intro h) | ((with_reducible apply n_or); rfl; rfl; intro h) | ((with_reducible apply n_call (f := 12)); rfl; rfl; exact hw) | ((with_reducible apply n_call (f := 40)); rfl; rfl; (first | exact h2 | exact h1)) | ((with_reducible apply n_val); rfl; rfl) | ((with_reducible apply n_new); rfl; (first | (simp only [hn0, hn1, hn2, hn3, hn4, hn5, List.length_cons, List.length_nil, Nat.reduceAdd, Nat.zero_add]; first | done | rfl) | rfl); rfl) | ((with_reducible apply n_store); rfl; rfl; rfl; rfl; rfl) | ((with_reducible apply n_call (f := 39)); rfl; rfl; exact p_awake7) | ((with_reducible apply fnQ_told_ret); rfl) | ((with_reducible apply fnQ_ret_soft); rfl; rfl)
  refine congrArg PV.bool ?_
  simp
theorem unr_7 (p : List Fn) (f b to ot pos : Int) (i : In) (o : Ed) (hf : few p = true) : Pure Go.Proofs.Tryz.prog glD 6 [pP p, pE ⟨7, f, b, to, ot, pos, i⟩, pE o] (.bool true) := by
  have hw := p_Few (gl := glD) p
  rw [hf] at hw
  have h1 := p_edCheck p ⟨7, f, b, o.to, o.ot, pos, o.i⟩ hf
  have h2 := p_edCheck p ⟨7, f, b, to, ot, pos, i⟩ hf
  have e : cheV p ⟨7, f, b, o.to, o.ot, pos, o.i⟩ = cheV p ⟨7, f, b, to, ot, pos, i⟩ := by
    simp only [cheV, othV, addV, insV]
    simp
  rw [e] at h1
  generalize cheV p ⟨7, f, b, to, ot, pos, i⟩ = c at *
  refine Pure.fn hmix b6 ?_
  repeat' first | (with_reducible first | refine tr_seq ?_ | refine n_nil ?_ | refine seqQ_normal ?_ | refine seqQ_ret ?_ | refine blkQ_ret ?_ | refine tr_skip ?_ | refine tr_ret ?_ | refine condT_t ?_ | refine condT_f ?_) | ((with_reducible refine tr_region_f ?_ ?_); kernel_rfl) | ((with_reducible refine tr_region_t ?_ ?_ ?_); kernel_rfl; kernel_rfl) | exact ⟨rfl, rfl⟩ | ((with_reducible apply tr_cond_e); rfl) | ((with_reducible refine condT_T ?_ ?_); exact rfl) | ((with_reducible refine condT_F ?_ ?_); exact rfl) | ((with_reducible apply n_and); rfl; rfl; intro h) | ((with_reducible apply n_or); rfl; rfl; intro h) | ((with_reducible apply n_call (f := 12)); rfl; rfl; exact hw) | ((with_reducible apply n_call (f := 40)); rfl; rfl; (first | exact h2 | exact h1)) | ((with_reducible apply n_val); rfl; rfl) | ((with_reducible apply n_new); rfl; (first | (simp only [hn0, hn1, hn2, hn3, hn4, hn5, List.length_cons, List.length_nil, Nat.reduceAdd, Nat.zero_add]; first | done | rfl) | rfl); rfl) | ((with_reducible apply n_store); rfl; rfl; rfl; rfl; rfl) | ((with_reducible apply n_call (f := 39)); rfl; rfl; exact p_awake7) | ((with_reducible apply fnQ_told_ret); rfl) | ((with_reducible apply fnQ_ret_soft); rfl; rfl)
  refine congrArg PV.bool ?_
  simp
theorem unr_no (p : List Fn) (op f b to ot pos : Int) (i : In) (o : Ed) (hf : few p = true) (ho : ¬ (0 ≤ op ∧ op < 8)) : Pure Go.Proofs.Tryz.prog glD 6 [pP p, pE ⟨op, f, b, to, ot, pos, i⟩, pE o] (.bool true) := by
  have hw := p_Few (gl := glD) p
  rw [hf] at hw
  have h1 := p_edCheck p ⟨op, f, b, o.to, o.ot, o.pos, o.i⟩ hf
  have h2 := p_edCheck p ⟨op, f, b, to, ot, pos, i⟩ hf
  have e : cheV p ⟨op, f, b, o.to, o.ot, o.pos, o.i⟩ = cheV p ⟨op, f, b, to, ot, pos, i⟩ := by
    simp only [cheV]
    split
    · rfl
    · first | rfl | rw [if_pos ho]
  rw [e] at h1
  generalize cheV p ⟨op, f, b, to, ot, pos, i⟩ = c at *
  refine Pure.fn hmix b6 ?_
  repeat' first | (with_reducible first | refine tr_seq ?_ | refine n_nil ?_ | refine seqQ_normal ?_ | refine seqQ_ret ?_ | refine blkQ_ret ?_ | refine tr_skip ?_ | refine tr_ret ?_ | refine condT_t ?_ | refine condT_f ?_) | ((with_reducible refine tr_region_f ?_ ?_); kernel_rfl) | ((with_reducible refine tr_region_t ?_ ?_ ?_); kernel_rfl; kernel_rfl) | exact ⟨rfl, rfl⟩ | ((with_reducible apply tr_cond_e); rfl) | ((with_reducible refine condT_T ?_ ?_); exact rfl) | ((with_reducible refine condT_F ?_ ?_); exact rfl) | ((with_reducible apply n_and); rfl; rfl; intro h) | ((with_reducible apply n_or); rfl; rfl; intro h) | ((with_reducible apply n_call (f := 12)); rfl; rfl; exact hw) | ((with_reducible apply n_call (f := 40)); rfl; rfl; (first | exact h2 | exact h1)) | ((with_reducible refine condT_T ?_ ?_); (simp only [bne_iff_ne, ne_eq]; omega)) | ((with_reducible refine condT_F ?_ ?_); (simp only [Bool.or_eq_false_iff, beq_eq_false_iff_ne, ne_eq]; omega)) | ((with_reducible apply n_val); rfl; rfl) | ((with_reducible apply n_new); rfl; (first | (simp only [hn0, hn1, hn2, hn3, hn4, hn5, List.length_cons, List.length_nil, Nat.reduceAdd, Nat.zero_add]; first | done | rfl) | rfl); rfl) | ((with_reducible apply n_store); rfl; rfl; rfl; rfl; rfl) | ((with_reducible apply n_call (f := 39)); rfl; rfl; exact p_awake7) | ((with_reducible apply fnQ_told_ret); rfl) | ((with_reducible apply fnQ_ret_soft); rfl; rfl)
  refine congrArg PV.bool ?_
  simp
theorem l_EditUnread (p : List Fn) (e o : Ed) : Pure Go.Proofs.Tryz.prog glD 6 [pP p, pE e, pE o] (.bool true) := by
  have hw := p_Few (gl := glD) p
  cases hf : few p with
  | false =>
    rw [hf] at hw
    refine Pure.fn hmix b6 ?_
    repeat' first | (with_reducible first | refine tr_seq ?_ | refine n_nil ?_ | refine seqQ_normal ?_ | refine seqQ_ret ?_ | refine blkQ_ret ?_ | refine tr_skip ?_ | refine tr_ret ?_ | refine condT_t ?_ | refine condT_f ?_) | ((with_reducible refine tr_region_f ?_ ?_); kernel_rfl) | ((with_reducible refine tr_region_t ?_ ?_ ?_); kernel_rfl; kernel_rfl) | exact ⟨rfl, rfl⟩ | ((with_reducible apply tr_cond_e); rfl) | ((with_reducible refine condT_T ?_ ?_); decide +kernel) | ((with_reducible refine condT_F ?_ ?_); decide +kernel) | ((with_reducible apply n_andF); rfl; rfl; decide +kernel) | ((with_reducible apply n_orT); rfl; rfl; decide +kernel) | ((with_reducible apply n_and); rfl; rfl; intro h) | ((with_reducible apply n_or); rfl; rfl; intro h) | with_reducible refine unrQ_normal ?_ | with_reducible refine unrQ_exit ?_ | with_reducible refine unrQ_ret ?_ | ((with_reducible apply n_call (f := 12)); rfl; rfl; exact hw) | ((with_reducible apply n_val); rfl; rfl) | ((with_reducible apply n_new); rfl; (first | (simp only [hn0, hn1, hn2, hn3, hn4, hn5, List.length_cons, List.length_nil, Nat.reduceAdd, Nat.zero_add]; first | done | rfl) | rfl); rfl) | ((with_reducible apply n_store); rfl; rfl; rfl; rfl; rfl) | ((with_reducible apply n_call (f := 39)); rfl; rfl; exact p_awake7) | (with_reducible refine condT_split (fun h => ?_) (fun h => ?_)) | ((with_reducible apply fnQ_told_ret); rfl) | ((with_reducible apply fnQ_ret_soft); rfl; rfl)
    all_goals rfl
  | true =>
    obtain ⟨op, f, b, to, ot, pos, i⟩ := e
    by_cases hop : 0 ≤ op ∧ op < 8
    · rcases (by omega : op = 0 ∨ op = 1 ∨ op = 2 ∨ op = 3 ∨ op = 4 ∨ op = 5 ∨ op = 6 ∨ op = 7) with rfl | rfl | rfl | rfl | rfl | rfl | rfl | rfl
      · exact unr_0 p f b to ot pos i o hf
      · exact unr_1 p f b to ot pos i o hf
      · exact unr_2 p f b to ot pos i o hf
      · exact unr_3 p f b to ot pos i o hf
      · exact unr_4 p f b to ot pos i o hf
      · exact unr_5 p f b to ot pos i o hf
      · exact unr_6 p f b to ot pos i o hf
      · exact unr_7 p f b to ot pos i o hf
    · exact unr_no p op f b to ot pos i o hf hop
end Go.Vm
end
