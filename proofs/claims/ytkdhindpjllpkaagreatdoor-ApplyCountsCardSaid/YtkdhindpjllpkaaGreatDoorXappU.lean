/- Laid. -/
import Derived.Test.YtkdhindpjllpkaaGreatDoorVmThree
import Derived.KernelRfl
import Derived.Test.YtkdhindpjllpkaaGreatDoorProg
import Derived.Test.YtkdhindpjllpkaaGreatDoorXappW
set_option linter.unusedSimpArgs false
set_option linter.unusedVariables false
set_option maxRecDepth 100000
set_option maxHeartbeats 4000000
set_option exponentiation.threshold 2000
namespace Go.Vm
open Go
def c14 : RFn := ⟨(.seq (rf (.o 2 (.box (.t 0)) (.o 3 (.box (.t 1)) (.o 4 (.move (.c (.bool false))) .nil)))) (.seq (rf (.o 12 (.call 35 []) (.o 5 (.m 12) .nil))) (.seq (.seq (rf (.o 13 (.load (some 1) (.t 2)) (.o 14 (.call 16 [(.t 13)]) (.o 15 (.un .not (.t 14)) .nil)))) (.cond (.t 15) (.seq (rf (.o 16 (.m 5) (.o 4 (.m 16) .nil))) .ret) .skip)) (.seq (rf (.o 18 (.load (some 1) (.t 2)) (.o 19 (.load (some 17) (.t 3)) (.o 20 (.call 39 [(.t 18), (.t 19)]) (.o 17 (.m 20) (.o 21 (.extract 0 (.t 17)) (.o 22 (.extract 1 (.t 17)) (.o 6 (.alloc (.agg [(.lit [])])) (.op none (.store 1 (.t 6) (.t 21)) 0 (.o 7 (.m 22) .nil)))))))))) (.seq (rf (.o 24 (.load (some 1) (.t 2)) (.o 25 (.load (some 17) (.t 3)) (.o 26 (.call 49 [(.t 24), (.t 25)]) (.o 23 (.m 26) (.o 27 (.extract 0 (.t 23)) (.o 28 (.extract 1 (.t 23)) (.o 8 (.alloc (.agg [(.int .i64 0), (.int .i64 0), (.int .i64 0), (.int .i64 0), (.int .i64 0), (.int .i64 0), (.int .i64 0), (.int .i64 0), (.int .i64 0), (.int .i64 0), (.int .i64 0), (.int .i64 0), (.int .i64 0), (.int .i64 0), (.int .i64 0), (.int .i64 0), (.int .i64 0)])) (.op none (.store 17 (.t 8) (.t 27)) 0 (.o 9 (.m 28) .nil)))))))))) (.seq (rf (.o 30 (.load (some 1) (.t 6)) (.o 31 (.load (some 17) (.t 8)) (.o 32 (.call 39 [(.t 30), (.t 31)]) (.o 29 (.m 32) (.o 33 (.extract 0 (.t 29)) (.o 34 (.extract 1 (.t 29)) (.o 10 (.alloc (.agg [(.lit [])])) (.op none (.store 1 (.t 10) (.t 33)) 0 (.o 11 (.m 34) .nil)))))))))) (.seq (.seq (rf (.o 35 (.m 7) (.o 36 (.bin .neq (.t 35) (.i 0)) .nil))) (.cond (.t 36) (.seq (rf (.o 37 (.m 5) (.o 38 (.m 37) (.grd 38 true (.o 39 (.m 9) (.o 40 (.un .not (.t 39)) .nil)) (.o 41 (.pick (.t 38) (.t 40) (.c (.bool false))) (.o 42 (.m 41) (.grd 42 true (.o 43 (.load (some 1) (.t 2)) (.o 44 (.load (some 1) (.t 6)) (.o 45 (.call 34 [(.t 43), (.t 44)]) .nil))) (.o 46 (.pick (.t 42) (.t 45) (.c (.bool false))) (.o 4 (.m 46) .nil))))))))) .ret) .skip)) (.seq (rf (.o 47 (.m 5) (.o 48 (.m 47) (.grd 48 true (.o 49 (.load (some 1) (.t 6)) (.o 50 (.call 17 [(.t 49)]) .nil)) (.o 51 (.pick (.t 48) (.t 50) (.c (.bool false))) (.o 52 (.m 51) (.grd 52 true (.o 53 (.m 9) (.o 54 (.un .not (.t 53)) (.o 55 (.m 54) (.grd 55 false (.o 56 (.m 11) (.o 57 (.bin .eql (.t 56) (.i 0)) (.o 58 (.m 57) (.grd 58 true (.o 59 (.load (some 1) (.t 10)) (.o 60 (.load (some 1) (.t 2)) (.o 61 (.call 34 [(.t 59), (.t 60)]) .nil))) (.o 62 (.pick (.t 58) (.t 61) (.c (.bool false))) .nil))))) (.o 63 (.pick (.t 55) (.c (.bool true)) (.t 62)) .nil))))) (.o 64 (.pick (.t 52) (.t 63) (.c (.bool false))) (.o 65 (.m 64) (.grd 65 true (.o 66 (.m 9) (.o 67 (.m 66) (.grd 67 false (.o 68 (.fieldAddr 0 (.t 3)) (.o 69 (.load none (.t 68)) (.o 70 (.bin .eql (.t 69) (.i 0)) .nil))) (.o 71 (.pick (.t 67) (.c (.bool true)) (.t 70)) (.o 72 (.m 71) (.grd 72 false (.o 73 (.fieldAddr 0 (.t 3)) (.o 74 (.load none (.t 73)) (.o 75 (.bin .eql (.t 74) (.i 2)) .nil))) (.o 76 (.pick (.t 72) (.c (.bool true)) (.t 75)) (.o 77 (.m 76) (.grd 77 false (.o 78 (.fieldAddr 0 (.t 3)) (.o 79 (.load none (.t 78)) (.o 80 (.bin .eql (.t 79) (.i 7)) .nil))) (.o 81 (.pick (.t 77) (.c (.bool true)) (.t 80)) .nil)))))))))) (.o 82 (.pick (.t 65) (.t 81) (.c (.bool false))) (.o 4 (.m 82) .nil)))))))))))) .ret)))))))), [.tmp 4]⟩
theorem b14 : fnOf Go.Proofs.Tryz.prog (owOf []) 14 = some c14 := by kernel_rfl
theorem l_ApplyUndone (p : List Fn) (e : Ed) : Pure Go.Proofs.Tryz.prog glD 14 [pP p, pE e] (.bool true) := by
  have hw := p_Few (gl := glD) p
  cases hf : few p with
  | false =>
    rw [hf] at hw
    refine Pure.fn hmix b14 ?_
    repeat' first | (with_reducible first | refine tr_seq ?_ | refine n_nil ?_ | refine seqQ_normal ?_ | refine seqQ_ret ?_ | refine tr_ret ?_) | ((with_reducible refine tr_region_f ?_ ?_); kernel_rfl) | ((with_reducible apply tr_cond_e); rfl) | ((with_reducible refine condT_T ?_ ?_); decide +kernel) | ((with_reducible apply n_call (f := 16)); rfl; rfl; exact hw) | ((with_reducible apply n_val); rfl; rfl) | ((with_reducible apply n_new); rfl; (((simp only [hn0, hn1, hn2, hn3, hn4, hn5, List.length_cons, List.length_nil, Nat.reduceAdd, Nat.zero_add]; rfl))); rfl) | ((with_reducible apply n_call (f := 35)); rfl; rfl; exact p_awake8) | ((with_reducible apply fnQ_ret_soft); rfl; rfl) | fail
    all_goals rfl
  | true =>
    rw [hf] at hw
    have hq := few_applyV e hf
    have h1 := p_Apply p e hf
    have h2 := p_apUndo p e hf
    have h3 := p_Apply (applyV p e) (undoV p e).1 hq
    have h4 := p_Sane (applyV p e) (few_fit hq)
    have h5 := p_Same (gl := glD) p (applyV p e) (few_fit hf) (few_fit hq)
    have h6 := p_Same (gl := glD) (applyV (applyV p e) (undoV p e).1) p (few_fit (few_applyV _ hq)) (few_fit hf)
    have a1 : cheV p e ≠ 0 → sameP p (applyV p e) = true ∧ (undoV p e).2 = false := fun hc => ⟨by rw [applyV, if_pos hc]; exact sameP_refl p, by rw [undo_bad hc]⟩
    have a2 : cheV p e = 0 → sane (applyV p e) = true := sane_apply
    have a3 : (undoV p e).2 = true → cheV (applyV p e) (undoV p e).1 = 0 ∧ sameP (applyV (applyV p e) (undoV p e).1) p = true := fun hu => by
      obtain ⟨q1, q2⟩ := undo_ok hu
      exact ⟨q1, by rw [q2]; exact sameP_refl p⟩
    have a4 : cheV p e = 0 → (undoV p e).2 = false → e.op = 0 ∨ e.op = 2 ∨ e.op = 7 := undo_no
    generalize applyV (applyV p e) (undoV p e).1 = r at *
    generalize cheV (applyV p e) (undoV p e).1 = d at *
    generalize applyV p e = q at *
    generalize cheV p e = c at *
    generalize (undoV p e).2 = ok at *
    generalize (undoV p e).1 = u at *
    refine Pure.fn hmix b14 ?_
    repeat' first | (with_reducible first | refine tr_seq ?_ | refine n_nil ?_ | refine seqQ_normal ?_ | refine seqQ_ret ?_ | refine tr_skip ?_ | refine tr_ret ?_) | ((with_reducible refine tr_region_f ?_ ?_); kernel_rfl) | exact ⟨rfl, rfl⟩ | ((with_reducible apply tr_cond_e); rfl) | ((with_reducible refine condT_F ?_ ?_); exact rfl) | ((with_reducible apply n_and); rfl; rfl; intro h) | ((with_reducible apply n_or); rfl; rfl; intro h) | ((with_reducible apply n_call (f := 16)); rfl; rfl; exact hw) | ((with_reducible apply n_call (f := 39)); rfl; rfl; exact h1) | ((with_reducible apply n_call (f := 39)); rfl; rfl; exact h3) | ((with_reducible apply n_call (f := 49)); rfl; rfl; exact h2) | ((with_reducible apply n_call (f := 17)); rfl; rfl; exact h4) | ((with_reducible apply n_call (f := 34)); rfl; rfl; exact h5) | ((with_reducible apply n_call (f := 34)); rfl; rfl; exact h6) | ((with_reducible apply n_val); rfl; rfl) | ((with_reducible apply n_new); rfl; (((simp only [hn0, hn1, hn2, hn3, hn4, hn5, List.length_cons, List.length_nil, Nat.reduceAdd, Nat.zero_add]; rfl))); rfl) | ((with_reducible apply n_store); rfl; rfl; rfl; rfl; rfl) | ((with_reducible apply n_call (f := 35)); rfl; rfl; exact p_awake8) | (with_reducible refine condT_split (fun h => ?_) (fun h => ?_)) | ((with_reducible apply fnQ_ret_soft); rfl; rfl) | fail
    all_goals (clear hw h1 h2 h3 h4 h5 h6; try dsimp only at *)
    · obtain ⟨q1, q2⟩ := a1 (by simpa using h)
      rw [q1, q2]; rfl
    · have hc : c = 0 := by simpa using h
      rw [a2 hc]
      cases ok with
      | true =>
        obtain ⟨q1, q2⟩ := a3 rfl
        rw [q1, q2]; rfl
      | false => rcases a4 hc rfl with h | h | h <;> simp [h]
end Go.Vm
