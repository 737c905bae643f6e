/- Laid. -/
import Derived.Test.YtjegabeechopdaaCbitsE
import Derived.Test.YtjegabeechopdaaWbitsD
import Derived.Test.YtjegabeechopdaaLBitsAll
/- Walks. -/
set_option maxRecDepth 100000
set_option linter.unusedSimpArgs false
set_option linter.unusedVariables false
namespace Go.Vm
open Go

section
variable {gl : Nat → Option PV}
set_option maxHeartbeats 4000000
set_option exponentiation.threshold 2000
theorem l_BitsLattice (m : Int) (ws : List Nat) (n : Int) (us : List Nat) (k : Int) (ts : List Nat) (hw : W64 ws) (hu : W64 us) (ht : W64 ts) : Pure Go.Proofs.Try.prog gl 17 [sv m ws, sv n us, sv k ts] (.bool true) := by
  have hx := rep_sv m ws hw
  have hy := rep_sv n us hu
  have hz := rep_sv k ts ht
  have h1 := hx.ok
  have h2 := hy.ok
  have h3 := hz.ok
  have h0 : (0 : Int) ≤ clN 0 ∧ clN 0 ≤ 1024 := by decide
  generalize nN m ws = M at *
  generalize nN n us = N at *
  generalize nN k ts = K at *
  generalize vN m ws = a at *
  generalize vN n us = b at *
  generalize vN k ts = c at *
  refine Pure.fn hmix b17 ?_
  repeat' first
    | with_reducible refine tr_seq ?_
    | ((with_reducible refine tr_region_f ?_ ?_); kernel_rfl)
    | ((with_reducible refine tr_region_t ?_ ?_ ?_); kernel_rfl; kernel_rfl)
    | with_reducible refine n_nil ?_
    | exact ⟨rfl, rfl⟩
    | with_reducible refine seqQ_normal ?_
    | with_reducible refine seqQ_ret ?_
    | with_reducible refine blkQ_ret ?_
    | with_reducible refine tr_skip ?_
    | with_reducible refine tr_ret ?_
    | ((with_reducible apply tr_cond_e); rfl)
    | with_reducible refine condT_t ?_
    | with_reducible refine condT_f ?_
    | ((with_reducible apply n_and); rfl; rfl; intro h)
    | ((with_reducible apply n_or); rfl; rfl; intro h)
    | ((with_reducible apply n_val); rfl; rfl)
    | ((with_reducible apply n_new); rfl; (first | (simp only [hn0, hn1, hn2, hn3, hn4, hn5, List.length_cons, List.length_nil, Nat.reduceAdd, Nat.zero_add]; done) | (simp only [hn0, hn1, hn2, hn3, hn4, hn5, List.length_cons, List.length_nil, Nat.reduceAdd, Nat.zero_add]; rfl) | rfl); rfl)
    | ((with_reducible apply n_store); rfl; rfl; rfl; rfl; rfl)
    | ((with_reducible apply n_call (f := 67)); rfl; rfl; exact p_law01_awake)
    | ((with_reducible apply n_call (f := 75)); rfl; rfl; exact p_law01_few ..)
    | ((with_reducible apply n_call (f := 76)); rfl; rfl; exact p_law01_ours ..)
    | ((with_reducible apply n_call (f := 68)); rfl; rfl; exact p_bits_New 0)
    | ((with_reducible apply n_call (f := 81)); rfl; rfl; exact r_bits_Minus (by first | exact hx | exact hy | exact hz | exact hs | (refine rep_mk ?_; (repeat (first | assumption | exact ok_zero (by omega) | exact ok_ofV _ _ (by assumption) | apply ok_or | apply ok_minus | apply ok_and | apply ok_with | apply ok_wout)))) (by first | exact hx | exact hy | exact hz | exact hs | (refine rep_mk ?_; (repeat (first | assumption | exact ok_zero (by omega) | exact ok_ofV _ _ (by assumption) | apply ok_or | apply ok_minus | apply ok_and | apply ok_with | apply ok_wout)))))
    | ((with_reducible apply n_call (f := 83)); rfl; rfl; exact r_bits_Meet (by first | exact hx | exact hy | exact hz | exact hs | (refine rep_mk ?_; (repeat (first | assumption | exact ok_zero (by omega) | exact ok_ofV _ _ (by assumption) | apply ok_or | apply ok_minus | apply ok_and | apply ok_with | apply ok_wout)))) (by first | exact hx | exact hy | exact hz | exact hs | (refine rep_mk ?_; (repeat (first | assumption | exact ok_zero (by omega) | exact ok_ofV _ _ (by assumption) | apply ok_or | apply ok_minus | apply ok_and | apply ok_with | apply ok_wout)))))
    | ((with_reducible apply n_call (f := 79)); rfl; rfl; exact r_bits_Union (by first | exact hx | exact hy | exact hz | exact hs | (refine rep_mk ?_; (repeat (first | assumption | exact ok_zero (by omega) | exact ok_ofV _ _ (by assumption) | apply ok_or | apply ok_minus | apply ok_and | apply ok_with | apply ok_wout)))) (by first | exact hx | exact hy | exact hz | exact hs | (refine rep_mk ?_; (repeat (first | assumption | exact ok_zero (by omega) | exact ok_ofV _ _ (by assumption) | apply ok_or | apply ok_minus | apply ok_and | apply ok_with | apply ok_wout)))))
    | ((with_reducible apply n_call (f := 70)); rfl; rfl; exact r_bits_Leq (by first | exact hx | exact hy | exact hz | exact hs | (refine rep_mk ?_; (repeat (first | assumption | exact ok_zero (by omega) | exact ok_ofV _ _ (by assumption) | apply ok_or | apply ok_minus | apply ok_and | apply ok_with | apply ok_wout)))) (by first | exact hx | exact hy | exact hz | exact hs | (refine rep_mk ?_; (repeat (first | assumption | exact ok_zero (by omega) | exact ok_ofV _ _ (by assumption) | apply ok_or | apply ok_minus | apply ok_and | apply ok_with | apply ok_wout)))))
    | ((with_reducible apply n_call (f := 71)); rfl; rfl; exact r_bits_Same (by first | exact hx | exact hy | exact hz | exact hs | (refine rep_mk ?_; (repeat (first | assumption | exact ok_zero (by omega) | exact ok_ofV _ _ (by assumption) | apply ok_or | apply ok_minus | apply ok_and | apply ok_with | apply ok_wout)))) (by first | exact hx | exact hy | exact hz | exact hs | (refine rep_mk ?_; (repeat (first | assumption | exact ok_zero (by omega) | exact ok_ofV _ _ (by assumption) | apply ok_or | apply ok_minus | apply ok_and | apply ok_with | apply ok_wout)))))
    | ((with_reducible apply n_call (f := 73)); rfl; rfl; exact r_bits_Count (by first | exact hx | exact hy | exact hz | exact hs | (refine rep_mk ?_; (repeat (first | assumption | exact ok_zero (by omega) | exact ok_ofV _ _ (by assumption) | apply ok_or | apply ok_minus | apply ok_and | apply ok_with | apply ok_wout)))))
    | (with_reducible refine condT_split (fun h => ?_) (fun h => ?_))
    | ((with_reducible apply fnQ_told_ret); rfl)
    | ((with_reducible apply fnQ_ret_soft); rfl; rfl)
  · rfl
  · rw [lattice1] at h
    cases h
  · exact congrArg PV.bool (lattice2 M N K a b c h1.r.1 h2.r.1)
theorem l_BitsOne (m : Int) (ws : List Nat) (i k : Int) (hw : W64 ws) : Pure Go.Proofs.Try.prog gl 19 [sv m ws, .int .i64 i, .int .i64 k] (.bool true) := by
  have hx := rep_sv m ws hw
  have h1 := hx.ok
  have hS := p_bits_Sane (gl := gl) m ws hw
  have hn : bSane m ws = true → nN m ws = m := sane_nN
  generalize nN m ws = M at *
  generalize vN m ws = a at *
  generalize bSane m ws = q at *
  refine Pure.fn hmix b19 ?_
  repeat' first
    | with_reducible refine tr_seq ?_
    | ((with_reducible refine tr_region_f ?_ ?_); kernel_rfl)
    | ((with_reducible refine tr_region_t ?_ ?_ ?_); kernel_rfl; kernel_rfl)
    | with_reducible refine n_nil ?_
    | exact ⟨rfl, rfl⟩
    | with_reducible refine seqQ_normal ?_
    | with_reducible refine seqQ_ret ?_
    | with_reducible refine blkQ_ret ?_
    | with_reducible refine tr_skip ?_
    | with_reducible refine tr_ret ?_
    | ((with_reducible apply tr_cond_e); rfl)
    | with_reducible refine condT_t ?_
    | with_reducible refine condT_f ?_
    | ((with_reducible apply n_and); rfl; rfl; intro h)
    | ((with_reducible apply n_or); rfl; rfl; intro h)
    | refine n_call (f := 87) rfl rfl hS ?_
    | ((with_reducible apply n_val); rfl; rfl)
    | ((with_reducible apply n_new); rfl; (first | (simp only [hn0, hn1, hn2, hn3, hn4, hn5, List.length_cons, List.length_nil, Nat.reduceAdd, Nat.zero_add]; done) | (simp only [hn0, hn1, hn2, hn3, hn4, hn5, List.length_cons, List.length_nil, Nat.reduceAdd, Nat.zero_add]; rfl) | rfl); rfl)
    | ((with_reducible apply n_store); rfl; rfl; rfl; rfl; rfl)
    | ((with_reducible apply n_call (f := 67)); rfl; rfl; exact p_law01_awake)
    | ((with_reducible apply n_call (f := 75)); rfl; rfl; exact p_law01_few ..)
    | ((with_reducible apply n_call (f := 76)); rfl; rfl; exact p_law01_ours ..)
    | ((with_reducible apply n_call (f := 69)); rfl; rfl; exact r_bits_With (by first | exact hx | exact hy | exact hz | exact hs | (refine rep_mk ?_; (repeat (first | assumption | exact ok_zero (by omega) | exact ok_ofV _ _ (by assumption) | apply ok_or | apply ok_minus | apply ok_and | apply ok_with | apply ok_wout)))) _)
    | ((with_reducible apply n_call (f := 88)); rfl; rfl; exact r_bits_Without (by first | exact hx | exact hy | exact hz | exact hs | (refine rep_mk ?_; (repeat (first | assumption | exact ok_zero (by omega) | exact ok_ofV _ _ (by assumption) | apply ok_or | apply ok_minus | apply ok_and | apply ok_with | apply ok_wout)))) _)
    | ((with_reducible apply n_call (f := 72)); rfl; rfl; exact r_bits_Has (by first | exact hx | exact hy | exact hz | exact hs | (refine rep_mk ?_; (repeat (first | assumption | exact ok_zero (by omega) | exact ok_ofV _ _ (by assumption) | apply ok_or | apply ok_minus | apply ok_and | apply ok_with | apply ok_wout)))) _)
    | ((with_reducible apply n_call (f := 87)); rfl; rfl; exact r_bits_Sane (by (repeat (first | assumption | exact ok_zero (by omega) | exact ok_ofV _ _ (by assumption) | apply ok_or | apply ok_minus | apply ok_and | apply ok_with | apply ok_wout))))
    | ((with_reducible apply n_call (f := 70)); rfl; rfl; exact r_bits_Leq (by first | exact hx | exact hy | exact hz | exact hs | (refine rep_mk ?_; (repeat (first | assumption | exact ok_zero (by omega) | exact ok_ofV _ _ (by assumption) | apply ok_or | apply ok_minus | apply ok_and | apply ok_with | apply ok_wout)))) (by first | exact hx | exact hy | exact hz | exact hs | (refine rep_mk ?_; (repeat (first | assumption | exact ok_zero (by omega) | exact ok_ofV _ _ (by assumption) | apply ok_or | apply ok_minus | apply ok_and | apply ok_with | apply ok_wout)))))
    | ((with_reducible apply n_call (f := 71)); rfl; rfl; exact r_bits_Same (by first | exact hx | exact hy | exact hz | exact hs | (refine rep_mk ?_; (repeat (first | assumption | exact ok_zero (by omega) | exact ok_ofV _ _ (by assumption) | apply ok_or | apply ok_minus | apply ok_and | apply ok_with | apply ok_wout)))) (by first | exact hx | exact hy | exact hz | exact hs | (refine rep_mk ?_; (repeat (first | assumption | exact ok_zero (by omega) | exact ok_ofV _ _ (by assumption) | apply ok_or | apply ok_minus | apply ok_and | apply ok_with | apply ok_wout)))))
    | (with_reducible refine condT_split (fun h => ?_) (fun h => ?_))
    | ((with_reducible apply fnQ_told_ret); rfl)
    | ((with_reducible apply fnQ_ret_soft); rfl; rfl)
  · rfl
  · have hq : q = true := by
      cases q with
      | true => rfl
      | false => simp at *
    rw [← hn hq, one1] at h
    cases h
  · have hq : q = true := by
      cases q with
      | true => rfl
      | false => simp at *
    rw [← hn hq]
    exact congrArg PV.bool (one2 M a i)
end

end Go.Vm
