/- Laid. -/
import Derived.Test.YtkdhindpjllpkaaGreatDoorVmThree
import Derived.KernelRfl
import Derived.Test.YtkdhindpjllpkaaGreatDoorProg
import Derived.Test.YtkdhindpjllpkaaGreatDoorXappU
set_option linter.unusedSimpArgs false
set_option linter.unusedVariables false
set_option maxRecDepth 100000
set_option maxHeartbeats 4000000
set_option exponentiation.threshold 2000
namespace Go.Vm
open Go
def c12 : RFn := ⟨(.seq (rf (.o 2 (.box (.t 0)) (.o 3 (.box (.t 1)) (.o 4 (.move (.c (.bool false))) .nil)))) (.seq (rf (.o 10 (.call 35 []) (.o 5 (.m 10) .nil))) (.seq (.seq (rf (.o 11 (.load (some 1) (.t 2)) (.o 12 (.call 16 [(.t 11)]) (.o 13 (.un .not (.t 12)) (.o 14 (.m 13) (.grd 14 false (.o 15 (.load (some 1) (.t 2)) (.o 16 (.call 17 [(.t 15)]) (.o 17 (.un .not (.t 16)) .nil))) (.o 18 (.pick (.t 14) (.c (.bool true)) (.t 17)) .nil))))))) (.cond (.t 18) (.seq (rf (.o 19 (.m 5) (.o 4 (.m 19) .nil))) .ret) .skip)) (.seq (rf (.o 21 (.load (some 1) (.t 2)) (.o 22 (.load (some 17) (.t 3)) (.o 23 (.call 39 [(.t 21), (.t 22)]) (.o 20 (.m 23) (.o 24 (.extract 0 (.t 20)) (.o 25 (.extract 1 (.t 20)) (.o 6 (.alloc (.agg [(.lit [])])) (.op none (.store 1 (.t 6) (.t 24)) 0 (.o 7 (.m 25) .nil)))))))))) (.seq (rf (.o 26 (.load (some 1) (.t 2)) (.o 27 (.load (some 17) (.t 3)) (.o 28 (.call 45 [(.t 26), (.t 27)]) (.o 8 (.m 28) .nil))))) (.seq (.seq (rf (.o 29 (.fieldAddr 0 (.t 6)) (.o 30 (.load none (.t 29)) (.o 31 (.len false (.t 30)) (.o 32 (.fieldAddr 0 (.t 2)) (.o 33 (.load none (.t 32)) (.o 34 (.len false (.t 33)) (.o 35 (.bin .lss (.t 31) (.t 34)) (.o 36 (.m 35) (.grd 36 false (.o 37 (.fieldAddr 0 (.t 6)) (.o 38 (.load none (.t 37)) (.o 39 (.len false (.t 38)) (.o 40 (.fieldAddr 0 (.t 2)) (.o 41 (.load none (.t 40)) (.o 42 (.len false (.t 41)) (.o 43 (.bin .add (.t 42) (.i 1)) (.o 44 (.bin .gtr (.t 39) (.t 43)) .nil)))))))) (.o 45 (.pick (.t 36) (.c (.bool true)) (.t 44)) (.o 46 (.m 45) (.grd 46 false (.o 47 (.m 7) (.o 48 (.bin .eql (.t 47) (.i 0)) (.o 49 (.m 8) (.o 50 (.len false (.t 49)) (.o 51 (.bin .eql (.t 50) (.i 1)) (.o 52 (.binb .neq (.t 48) (.t 51)) .nil)))))) (.o 53 (.pick (.t 46) (.c (.bool true)) (.t 52)) .nil)))))))))))))) (.cond (.t 53) (.seq (rf (.o 4 (.move (.c (.bool false))) .nil)) .ret) .skip)) (.seq (.seq (rf (.o 9 (.move (.i 0)) .nil)) (.block 0 (.loop (.seq (.seq (rf (.o 54 (.m 9) (.o 55 (.fieldAddr 0 (.t 6)) (.o 56 (.load none (.t 55)) (.o 57 (.len false (.t 56)) (.o 58 (.bin .lss (.t 54) (.t 57)) .nil)))))) (.cond (.t 58) .skip (.exit 0))) (.seq (.block 1 (.seq (.seq (rf (.o 61 (.m 8) (.o 62 (.len false (.t 61)) (.o 63 (.bin .eql (.t 62) (.i 1)) (.o 64 (.m 63) (.grd 64 true (.o 65 (.m 8) (.o 66 (.idxAddr 1 (.t 65) (.i 0)) (.o 67 (.load none (.t 66)) (.o 68 (.m 9) (.o 69 (.bin .eql (.t 67) (.t 68)) .nil))))) (.o 70 (.pick (.t 64) (.t 69) (.c (.bool false))) .nil))))))) (.cond (.t 70) (.exit 1) .skip)) (.seq (rt (.o 71 (.m 9) (.o 72 (.fieldAddr 0 (.t 2)) (.op (some 73) (.load none (.t 72)) 2 (.op (some 74) (.len false (.t 73)) 6 (.op (some 75) (.bin .geq (.t 71) (.t 74)) 15 (.op (some 76) (.m 75) 31 (.grd 76 false (.op (some 77) (.fieldAddr 0 (.t 2)) 63 (.op (some 78) (.load none (.t 77)) 127 (.op (some 79) (.m 9) 63 (.op (some 80) (.idxAddr 3 (.t 78) (.t 79)) 511 (.op (some 81) (.load (some 3) (.t 80)) 1023 (.op (some 82) (.bslice false 3 1 (.agg [(.int .i64 0), (.int .i64 0), (.lit [])]) [(0, (.t 81))]) 2047 (.op (some 83) (.build [(.lit [])] [(0, 1, (.t 82))]) 4095 (.op (some 84) (.fieldAddr 0 (.t 6)) 63 (.op (some 85) (.load none (.t 84)) 8255 (.op (some 86) (.m 9) 63 (.op (some 87) (.idxAddr 3 (.t 85) (.t 86)) 57407 (.op (some 88) (.load (some 3) (.t 87)) 122943 (.op (some 89) (.bslice false 3 1 (.agg [(.int .i64 0), (.int .i64 0), (.lit [])]) [(0, (.t 88))]) 254015 (.op (some 90) (.build [(.lit [])] [(0, 1, (.t 89))]) 516159 (.op (some 91) (.call 34 [(.t 83), (.t 90)]) 1048575 (.op (some 92) (.un .not (.t 91)) 2097151 .nil)))))))))))))))) (.op (some 93) (.pick (.t 76) (.c (.bool true)) (.t 92)) 4194303 .nil))))))))) (.cond (.t 93) (.seq (rf (.o 4 (.move (.c (.bool false))) .nil)) .ret) .skip)))) (rf (.o 59 (.m 9) (.o 60 (.bin .add (.t 59) (.i 1)) (.o 9 (.m 60) .nil))))))))) (.seq (rf (.o 94 (.m 5) (.o 95 (.m 94) (.grd 95 true (.o 96 (.load (some 1) (.t 2)) (.o 97 (.load (some 17) (.t 3)) (.o 98 (.call 46 [(.t 96), (.t 97)]) (.o 99 (.un .not (.t 98)) (.o 100 (.m 99) (.grd 100 false (.o 101 (.load (some 1) (.t 2)) (.o 102 (.load (some 1) (.t 6)) (.o 103 (.call 34 [(.t 101), (.t 102)]) .nil))) (.o 104 (.pick (.t 100) (.c (.bool true)) (.t 103)) .nil))))))) (.o 105 (.pick (.t 95) (.t 104) (.c (.bool false))) (.o 106 (.m 105) (.grd 106 true (.o 107 (.m 7) (.o 108 (.bin .neq (.t 107) (.i 0)) (.o 109 (.m 108) (.grd 109 false (.o 110 (.load (some 1) (.t 2)) (.o 111 (.load (some 17) (.t 3)) (.o 112 (.call 46 [(.t 110), (.t 111)]) .nil))) (.o 113 (.pick (.t 109) (.c (.bool true)) (.t 112)) (.o 114 (.m 113) (.grd 114 false (.o 115 (.load (some 1) (.t 2)) (.o 116 (.load (some 1) (.t 6)) (.o 117 (.call 34 [(.t 115), (.t 116)]) (.o 118 (.un .not (.t 117)) .nil)))) (.o 119 (.pick (.t 114) (.c (.bool true)) (.t 118)) .nil)))))))) (.o 120 (.pick (.t 106) (.t 119) (.c (.bool false))) (.o 4 (.m 120) .nil))))))))) .ret)))))))), [.tmp 4]⟩
theorem b12 : fnOf Go.Proofs.Tryz.prog (owOf [(12, 11), (12, 18)]) 12 = some c12 := by kernel_rfl
theorem l_ApplyOne (p : List Fn) (e : Ed) : Pure Go.Proofs.Tryz.prog glD 12 [pP p, pE e] (.bool true) := by
  have hw := p_Few (gl := glD) p
  cases hf : few p with
  | false =>
    rw [hf] at hw
    refine Pure.fn hmix b12 ?_
    repeat' first | (with_reducible first | refine tr_seq ?_ | refine n_nil ?_ | refine seqQ_normal ?_ | refine seqQ_ret ?_ | refine tr_ret ?_ | refine condT_t ?_) | ((with_reducible refine tr_region_f ?_ ?_); kernel_rfl) | ((with_reducible apply tr_cond_e); rfl) | ((with_reducible apply n_orT); rfl; rfl; decide +kernel) | ((with_reducible apply n_call (f := 16)); rfl; rfl; exact hw) | ((with_reducible apply n_val); rfl; rfl) | ((with_reducible apply n_new); rfl; (((simp only [hn0, hn1, hn2, hn3, hn4, hn5, List.length_cons, List.length_nil, Nat.reduceAdd, Nat.zero_add]; rfl))); rfl) | ((with_reducible apply n_call (f := 35)); rfl; rfl; exact p_awake8) | ((with_reducible apply fnQ_ret_soft); rfl; rfl) | fail
    all_goals rfl
  | true =>
    rw [hf] at hw
    have hs := p_Sane p (few_fit hf)
    cases hS : sane p with
    | false =>
      rw [hS] at hs
      refine Pure.fn hmix b12 ?_
      repeat' first | (with_reducible first | refine tr_seq ?_ | refine n_nil ?_ | refine seqQ_normal ?_ | refine seqQ_ret ?_ | refine tr_ret ?_) | ((with_reducible refine tr_region_f ?_ ?_); kernel_rfl) | exact ⟨rfl, rfl⟩ | ((with_reducible apply tr_cond_e); rfl) | ((with_reducible refine condT_T ?_ ?_); decide +kernel) | ((with_reducible apply n_or); rfl; rfl; intro h) | ((with_reducible apply n_call (f := 16)); rfl; rfl; exact hw) | ((with_reducible apply n_call (f := 17)); rfl; rfl; exact hs) | ((with_reducible apply n_val); rfl; rfl) | ((with_reducible apply n_new); rfl; (((simp only [hn0, hn1, hn2, hn3, hn4, hn5, List.length_cons, List.length_nil, Nat.reduceAdd, Nat.zero_add]; rfl))); rfl) | ((with_reducible apply n_call (f := 35)); rfl; rfl; exact p_awake8) | ((with_reducible apply fnQ_ret_soft); rfl; rfl) | fail
      all_goals rfl
    | true =>
    rw [hS] at hs
    have hq := few_applyV e hf
    have h1 := p_Apply p e hf
    have h2 := p_edTou p e hf
    have h3 := p_edSame p e hf
    have h4 := p_Same (gl := glD) p (applyV p e) (few_fit hf) (few_fit hq)
    have h5 : ∀ k, k < (applyV p e).length → ¬ (cheV p e = 0 ∧ (touV p e).getD 0 0 = (k : Int)) → k < p.length ∧ (applyV p e).getD k F0 = p.getD k F0 := fun k hk hn => app_other hk hn
    have h6 : ∀ k, k < p.length → k < (applyV p e).length → Pure Go.Proofs.Tryz.prog glD 34 [pP [p.getD k F0], pP [(applyV p e).getD k F0]] (.bool (sameP [p.getD k F0] [(applyV p e).getD k F0])) := fun k h1 h2 => p_Same _ _ (fit_one (few_fit hf) (getD_mem F0 h1)) (fit_one (few_fit hq) (getD_mem F0 h2))
    have a1 := app_len p e
    have a2 := tou_one p e
    have a3 : samV p e = true → sameP p (applyV p e) = true := fun h => by rw [app_same h]; exact sameP_refl p
    have a4 : cheV p e = 0 → samV p e = false → sameP p (applyV p e) = false := fun hc hs => sameP_ne fun h => app_diff hc hs h.symm
    have a5 : sameP p (applyV p e) = true → sameP p (applyV p e) = true := id
    have hlen := (few_bs hf).1
    generalize applyV p e = q at *
    generalize cheV p e = c at *
    generalize touV p e = t at *
    generalize samV p e = m at *
    refine Pure.fn hmix b12 ?_
    repeat' first | (with_reducible first | refine tr_seq ?_ | refine n_nil ?_ | refine seqQ_normal ?_ | refine seqQ_exit ?_ | refine seqQ_ret ?_ | refine blkQ_normal ?_ | refine blkQ_exit ?_ | refine blkQ_ret ?_ | refine tr_block ?_ | refine tr_skip ?_ | refine tr_exit ?_ | refine tr_ret ?_ | refine loopV_exit ?_ | refine loopV_ret ?_) | ((with_reducible refine tr_region_f ?_ ?_); kernel_rfl) | ((with_reducible refine tr_region_t ?_ ?_ ?_); kernel_rfl; kernel_rfl) | exact ⟨rfl, rfl⟩ | ((with_reducible apply tr_cond_e); rfl) | ((with_reducible refine condT_F ?_ ?_); exact rfl) | ((with_reducible apply n_and); rfl; rfl; intro h) | ((with_reducible apply n_or); rfl; rfl; intro h) | ((with_reducible apply n_call (f := 16)); rfl; rfl; exact hw) | ((with_reducible apply n_call (f := 17)); rfl; rfl; exact hs) | ((with_reducible apply n_call (f := 39)); rfl; rfl; exact h1) | ((with_reducible apply n_call (f := 45)); rfl; rfl; exact h2) | ((with_reducible apply n_call (f := 46)); rfl; rfl; exact h3) | ((with_reducible apply n_call (f := 34)); rfl; rfl; exact h4) | ((with_reducible apply n_call (f := 34)); rfl; rfl; exact h6 k (by ((simp only [decide_eq_true_eq, decide_eq_false_iff_not, List.length_map] at *; omega))) (by ((simp only [decide_eq_true_eq, decide_eq_false_iff_not, List.length_map] at *; omega)))) | ((with_reducible apply n_idx_vals F0); rfl; rfl; exact (fun _ => rfl); (((simp only [zz] at *; omega)))) | ((with_reducible apply n_idx_ints); rfl; rfl; (have hz := ‹_ = true›; simp only [decide_eq_true_eq, ints_length, beq_iff_eq] at *; omega)) | ((((with_reducible apply n_bin); rfl; rfl; focus ((with_reducible (apply b_add)) <;> first | omega | (simp only [zz] at *; omega))))) | (refine tr_loop_v (α := Nat) 3 (fun | k => [(9, some (.int .i64 (k : Int))), (54, none), (55, none), (56, none), (57, none), (58, none), (61, none), (62, none), (63, none), (64, none), (65, none), (66, none), (67, none), (68, none), (69, none), (70, none), (71, none), (72, none), (73, none), (74, none), (75, none), (76, none), (77, none), (78, none), (79, none), (80, none), (81, none), (82, none), (83, none), (84, none), (85, none), (86, none), (87, none), (88, none), (89, none), (90, none), (91, none), (92, none), (93, none), (4, none), (59, none), (60, none)]) (fun | k => [some ⟨0, 1, [pP p]⟩, some ⟨0, 17, [pE e]⟩, some ⟨0, 1, [pP q]⟩]) (fun | k => k ≤ q.length) (fun | k => q.length - k) (0) (ks := [9, 54, 55, 56, 57, 58, 61, 62, 63, 64, 65, 66, 67, 68, 69, 70, 71, 72, 73, 74, 75, 76, 77, 78, 79, 80, 81, 82, 83, 84, 85, 86, 87, 88, 89, 90, 91, 92, 93, 4, 59, 60]) (fun _ => rfl) (fun _ => rfl) rfl (by omega) ?_ ⟨⟨_, rfl, rfl⟩, trivial⟩ ⟨⟨_, rfl, rfl, rfl, rfl⟩, ⟨_, rfl, rfl, rfl, rfl⟩, ⟨_, rfl, rfl, rfl, rfl⟩, trivial⟩ ?_; rotate_left; rintro k hx; try dsimp only at hx) | (((refine loopV_normal (k + 1) ?_ ⟨⟨_, rfl, rfl⟩, trivial⟩ ⟨⟨_, rfl, rfl, rfl, rfl⟩, ⟨_, rfl, rfl, rfl, rfl⟩, ⟨_, rfl, rfl, rfl, rfl⟩, trivial⟩ ?_ ?_)); repeat (first | exact only_refl | refine only_put rfl ?_ | refine only_less rfl ?_)) | ((with_reducible apply n_val); rfl; rfl) | ((with_reducible apply n_new); rfl; (((simp only [hn0, hn1, hn2, hn3, hn4, hn5, List.length_cons, List.length_nil, Nat.reduceAdd, Nat.zero_add]; rfl))); rfl) | ((with_reducible apply n_store); rfl; rfl; rfl; rfl; rfl) | ((with_reducible apply n_call (f := 35)); rfl; rfl; exact p_awake8) | (with_reducible refine condT_split (fun h => ?_) (fun h => ?_)) | ((with_reducible apply fnQ_ret_soft); rfl; rfl) | fail
    all_goals (clear hw hs h1 h2 h3 h4 h6; try dsimp only at *)
    · exfalso
      rw [ints_length, List.length_map, List.length_map] at h
      have e1 : (c == 0) = ((t.length : Int) == 1) := by
        rw [Bool.eq_iff_iff, beq_iff_eq, beq_iff_eq]
        constructor
        · intro z; have := a2.2 z; omega
        · intro z; exact a2.1 (by omega)
      rw [e1] at h
      simp at h
      omega
    · have z := of_decide_eq_true ‹decide ((k : Int) < (List.map pF q).length) = true›
      rw [List.length_map] at z
      omega
    · have z := of_decide_eq_true ‹decide ((k : Int) < (List.map pF q).length) = true›
      rw [List.length_map] at z
      omega
    · exfalso
      have z := of_decide_eq_true ‹decide ((k : Int) < (List.map pF q).length) = true›
      rw [List.length_map] at z
      rename ((_ == _) && (_ == _)) = false => hz
      obtain ⟨q1, q2⟩ := h5 k (by omega) fun ⟨hc, ht⟩ => by
        have := a2.2 hc
        rw [ints_length, this, show t.getD (Int.toNat 0) 0 = (k : Int) from ht] at hz
        simp at hz
      rw [q2, sameP_refl, List.length_map] at h
      simp at h
      omega
    · have z := of_decide_eq_true ‹decide ((k : Int) < (List.map pF q).length) = true›
      rw [List.length_map] at z
      omega
    · have z := of_decide_eq_true ‹decide ((k : Int) < (List.map pF q).length) = true›
      rw [List.length_map] at z
      omega
    · cases m with
      | true => rw [a3 rfl]; simp
      | false =>
        by_cases hc : c = 0
        · rw [a4 hc rfl]; simp
        · simp [hc]
    · exact Nat.zero_le _
end Go.Vm
